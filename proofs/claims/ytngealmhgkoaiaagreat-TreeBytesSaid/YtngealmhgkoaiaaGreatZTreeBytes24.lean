/- As OnceSt; the memory that is written begins at a block B, old or new; inside a round of a range over a function, too. -/
import Derived.Test.YtngealmhgkoaiaaGreatZTreeBytes07
import Derived.OrdersIn
import Derived.RangeFuncCalls
namespace Go.Proofs.YtngealmhgkoaiaaGreat
open Go.RowKit
set_option linter.unusedVariables false
/-- what is owed for one operation; st: it changes no old memory at all -/
def Owed4 (P : Program) (l : List Oper) (Q : Exit → Act → World → Prop) (sat : List Fact) (st : List Bool) (a0 : Act) (B : Nat) (W : World) (i : Nat) (o : Oper) : Prop :=
  ∀ (a : Act) (w : World), Below B W w → (∀ s, freeAt l i s = true → a.tmps[s]?.getD undef = a0.tmps[s]?.getD undef) → factsOf3 sat l a w o.after.toList →
    ∀ K : Act → World → Prop, (∀ v w', (sat.getD i (fun _ _ => True)) (seenBy o a v) w' → Below (bif st.getD i true then w.heap.size else B) w w' → K (a.put o.dst v) w') →
      if Region.wanted o (yielded l.toArray a.tmps) = true then Oper.wp P o a w K Q else K (a.put o.dst undef) w
def OwedAll4 (P : Program) (l : List Oper) (Q : Exit → Act → World → Prop) (sat : List Fact) (st : List Bool) (a0 : Act) (B : Nat) (W : World) : Nat → List Oper → Prop
  | _, [] => True
  | i, o :: os => Owed4 P l Q sat st a0 B W i o ∧ OwedAll4 P l Q sat st a0 B W (i + 1) os
theorem OwedAll4.nil {P : Program} {l : List Oper} {Q : Exit → Act → World → Prop} {sat : List Fact} {st : List Bool} {a0 : Act} {B : Nat} {W : World} {i : Nat} : OwedAll4 P l Q sat st a0 B W i [] := trivial
theorem OwedAll4.cons {P : Program} {l : List Oper} {Q : Exit → Act → World → Prop} {sat : List Fact} {st : List Bool} {a0 : Act} {B : Nat} {W : World} {i : Nat} {o : Oper} {os : List Oper} (h : Owed4 P l Q sat st a0 B W i o) (t : OwedAll4 P l Q sat st a0 B W (i + 1) os) : OwedAll4 P l Q sat st a0 B W i (o :: os) := ⟨h, t⟩
theorem owedAll4_get {P : Program} {l : List Oper} {Q : Exit → Act → World → Prop} {sat : List Fact} {st : List Bool} {a0 : Act} {B : Nat} {W : World} : ∀ (os : List Oper) (k : Nat), OwedAll4 P l Q sat st a0 B W k os → ∀ i o, os[i]? = some o → Owed4 P l Q sat st a0 B W (k + i) o := by
  intro os
  induction os with
  | nil => intro k _ i o h; simp at h
  | cons x os ih =>
    intro k h i o ho
    cases i with
    | zero => simp at ho; subst ho; exact h.1
    | succ i =>
      have := ih (k + 1) h.2 i o (by simpa using ho)
      rw [show k + (i + 1) = k + 1 + i by omega]; exact this
structure OnceJ4 (l : List Oper) (sat : List Fact) (fin : List Bool) (a0 : Act) (B : Nat) (W : World) (listed : Array Bool) (a : Act) (w : World) : Prop where
  size : a.tmps.size = a0.tmps.size
  defers : a.defers = a0.defers
  out : ∀ s, (∀ j o, listed.getD j false = true → l[j]? = some o → o.dst ≠ some s) → a.tmps[s]?.getD undef = a0.tmps[s]?.getD undef
  closed : ∀ j o, listed.getD j false = true → l[j]? = some o → ∀ e ∈ o.after.toList, Region.binds .any e = true → listed.getD e.on false = true
  low : Below B W w
  facts : ∀ i, listed.getD i false = true → aliveAt3 l fin listed i → factAt3 sat l a w i
  lsize : listed.size = l.length
theorem once4_any {P : Program} {l : List Oper} {Q : Exit → Act → World → Prop} {sat : List Fact} {fin st pu : List Bool} {a0 : Act} {B : Nat} {W : World} (hB : B ≤ W.heap.size) (hk : Keeps sat) (hd : dstOk3 l a0.tmps.size = true) (he : edgesOk3 l = true) (hp : Pures sat pu) (hla : lateOk3 l fin st pu = true)
    (hops : OwedAll4 P l Q sat st a0 B W 0 l)
    (hend : ∀ (a : Act) (w : World), a.tmps.size = a0.tmps.size → a.defers = a0.defers → (∀ s, (dstsOf l).contains s = false → a.tmps[s]?.getD undef = a0.tmps[s]?.getD undef) → Below B W w → (∀ i, i < l.length → fin.getD i false = true → factAt3 sat l a w i) → Q .normal a w) :
    ∀ (fuel : Nat) (listed : Array Bool) (a : Act) (w : World), OnceJ4 l sat fin a0 B W listed a w → listed.toList.count false ≤ fuel → wpAny P .any l.toArray Q fuel listed a w := by
  intro fuel
  have hfin : ∀ (listed : Array Bool) (a : Act) (w : World), OnceJ4 l sat fin a0 B W listed a w → Region.ready .any l.toArray listed = [] → Q .normal a w := by
    intro listed a w J hr
    refine hend a w J.size J.defers (fun s hs => J.out s fun j o _ ho hd' => ?_) J.low fun i hi hfi => J.facts i ?_ (.inl hfi)
    · have : (dstsOf l).contains s = true := by
        rw [List.contains_iff_mem]
        exact List.mem_filterMap.2 ⟨o, List.mem_of_getElem? ho, hd'⟩
      rw [this] at hs; cases hs
    cases hb : listed.getD i false with
    | true => rfl
    | false => exact absurd hr (ready_some3 he J.lsize hi hb)
  induction fuel with
  | zero =>
    intro listed a w J hc
    have hr : Region.ready .any l.toArray listed = [] := by
      refine Classical.byContradiction fun hn => ?_
      obtain ⟨i, hi⟩ := List.exists_mem_of_ne_nil _ hn
      have h1 := (mem_ready.1 hi).1
      have hlt : i < listed.size := by
        rcases Nat.lt_or_ge i listed.size with h | h
        · exact h
        · rw [Array.getD_eq_getD_getElem?, Array.getElem?_eq_none h] at h1; simp at h1
      rw [Array.getD_eq_getD_getElem?, Array.getElem?_eq_getElem hlt] at h1
      have h2 : false ∈ listed.toList := by
        rw [← show listed[i] = false from h1]
        simp
      have := List.count_pos_iff.2 h2
      omega
    exact ⟨hr, hfin listed a w J hr⟩
  | succ fuel ih =>
    intro listed a w J hc
    refine ⟨hfin listed a w J, ?_⟩
    intro i hi
    obtain ⟨o, ho, hdep⟩ := ready_spec hi
    have h1 := (mem_ready.1 hi).1
    have hol : l[i]? = some o := by simpa using ho
    have hil : i < l.length := by
      rcases Nat.lt_or_ge i l.length with h | h
      · exact h
      · rw [List.getElem?_eq_none h] at hol; cases hol
    have hlt : i < listed.size := by rw [J.lsize]; exact hil
    obtain ⟨d, hob, hdn⟩ := obs_some hd hol
    refine wpOp_step ho ?_
    intro K' hK'
    have hO := owedAll4_get l 0 hops i o hol
    rw [Nat.zero_add] at hO
    have h1f : listed.getD i false = false := by
      rw [Array.getD_eq_getD_getElem?, Array.getElem?_eq_getElem hlt] at h1 ⊢
      exact h1
    have hfree : ∀ s, freeAt l i s = true → a.tmps[s]?.getD undef = a0.tmps[s]?.getD undef := by
      intro s hs
      refine J.out s fun j o' hj hoj hds => ?_
      have hjl : j < l.length := by
        rcases Nat.lt_or_ge j l.length with h | h
        · exact h
        · rw [List.getElem?_eq_none h] at hoj; cases hoj
      have := List.all_eq_true.1 hs j (List.mem_range.2 hjl)
      rw [hoj] at this
      simp only [Bool.or_eq_true, bne_iff_ne, beq_iff_eq, List.any_eq_true, Bool.and_eq_true] at this
      rcases this with (h | h) | ⟨e, he, hb, hei⟩
      · exact h hds
      · subst h; rw [h1f] at hj; cases hj
      · have := J.closed j o' hj hoj e he hb
        rw [hei, h1f] at this; cases this
    refine hO a w J.low hfree (factsOf3_mk _ fun e hm hb => J.facts _ (hdep e hm (needs_binds hb)) (.inr ⟨i, o, hol, h1f, e, hm, hb, rfl⟩)) K' ?_
    intro v w' hv hbw
    refine hK' _ _ (ih _ _ _ ?_ ?_)
    · constructor
      · rw [put_size]; exact J.size
      · rw [put_defers]; exact J.defers
      · intro s hs
        have hii : (listed.setIfInBounds i true).getD i false = true := by
          rw [Array.getD_eq_getD_getElem?, Array.getElem?_setIfInBounds, if_pos rfl, if_pos hlt]; rfl
        rw [put_ne a o.dst s v (hs i o hii hol)]
        refine J.out s fun j o' hj hoj => hs j o' ?_ hoj
        by_cases hji : j = i
        · subst hji; exact hii
        · rw [Array.getD_eq_getD_getElem?, Array.getElem?_setIfInBounds, if_neg (fun e => hji e.symm), ← Array.getD_eq_getD_getElem?]; exact hj
      · intro j o' hj hoj e hem hb
        have hstep : ∀ m, listed.getD m false = true → (listed.setIfInBounds i true).getD m false = true := by
          intro m hm
          by_cases hmi : m = i
          · subst hmi; rw [Array.getD_eq_getD_getElem?, Array.getElem?_setIfInBounds, if_pos rfl, if_pos hlt]; rfl
          · rw [Array.getD_eq_getD_getElem?, Array.getElem?_setIfInBounds, if_neg (fun e => hmi e.symm), ← Array.getD_eq_getD_getElem?]; exact hm
        by_cases hji : j = i
        · subst hji
          rw [hol] at hoj
          cases hoj
          exact hstep _ (hdep e hem hb)
        · refine hstep _ (J.closed j o' ?_ hoj e hem hb)
          rw [Array.getD_eq_getD_getElem?, Array.getElem?_setIfInBounds, if_neg (fun e => hji e.symm)] at hj
          rw [Array.getD_eq_getD_getElem?]; exact hj
      · exact J.low.trans (hbw.mono (by cases st.getD i true with | true => exact Nat.le_trans hB J.low.size | false => exact Nat.le_refl _))
      · intro j hj hal
        unfold factAt3
        cases hoj : l[j]? with
        | none => trivial
        | some o' =>
          obtain ⟨d', hd', _⟩ := obs_some hd hoj
          simp only [hd']
          by_cases hji : j = i
          · subst hji
            rw [hol] at hoj
            cases hoj
            rw [hob] at hd'
            cases hd'
            rw [put_obs a hob v (by rw [J.size]; exact hdn)]
            exact hv
          · rw [put_ne a o.dst d' v (by
              intro hdd
              rcases obs_ne hd hoj hol hd' hdd hji with h | ⟨e, he, hb, hei⟩
              · exact h rfl
              · have := J.closed j o' (by
                  rw [Array.getD_eq_getD_getElem?, Array.getElem?_setIfInBounds, if_neg (fun e => hji e.symm)] at hj
                  rw [Array.getD_eq_getD_getElem?]; exact hj) hoj e he hb
                rw [hei, h1f] at this; cases this)]
            have hjl : listed.getD j false = true := by
              rw [Array.getD_eq_getD_getElem?, Array.getElem?_setIfInBounds, if_neg (fun e => hji e.symm)] at hj
              rw [Array.getD_eq_getD_getElem?]; exact hj
            have hstep : ∀ m, listed.getD m false = true → (listed.setIfInBounds i true).getD m false = true := by
              intro m hm
              by_cases hmi : m = i
              · subst hmi; rw [Array.getD_eq_getD_getElem?, Array.getElem?_setIfInBounds, if_pos rfl, if_pos hlt]; rfl
              · rw [Array.getD_eq_getD_getElem?, Array.getElem?_setIfInBounds, if_neg (fun e => hmi e.symm), ← Array.getD_eq_getD_getElem?]; exact hm
            have hii : (listed.setIfInBounds i true).getD i false = true := by
              rw [Array.getD_eq_getD_getElem?, Array.getElem?_setIfInBounds, if_pos rfl, if_pos hlt]; rfl
            have hal0 : aliveAt3 l fin listed j := by
              rcases hal with h | ⟨c, oc, hc, hcl, x⟩
              · exact .inl h
              · refine .inr ⟨c, oc, hc, ?_, x⟩
                cases hq : listed.getD c false with
                | false => rfl
                | true => rw [hstep c hq] at hcl; cases hcl
            have := J.facts j hjl hal0
            unfold factAt3 at this
            rw [hoj] at this
            simp only [hd'] at this
            cases hst : st.getD i true with
            | true => rw [hst] at hbw; exact hk j _ _ _ this hbw
            | false =>
              have hq := List.all_eq_true.1 hla i (List.mem_range.2 hil)
              rw [hst, Bool.false_or] at hq
              have hjlt : j < l.length := by
                rcases Nat.lt_or_ge j l.length with h | h
                · exact h
                · rw [List.getElem?_eq_none h] at hoj; cases hoj
              have hq := List.all_eq_true.1 hq j (List.mem_range.2 hjlt)
              rw [Bool.or_eq_true, Bool.or_eq_true, beq_iff_eq, Bool.and_eq_true] at hq
              rcases hq with (hq | hq) | ⟨hq1, hq2⟩
              · exact absurd hq hji
              · exact hp j hq _ _ _ this
              · exfalso
                rcases hal with h | ⟨c, oc, hc, hcl, e, hem, heb, hej⟩
                · rw [h] at hq1; cases hq1
                · have hclt : c < l.length := by
                    rcases Nat.lt_or_ge c l.length with h | h
                    · exact h
                    · rw [List.getElem?_eq_none h] at hc; cases hc
                  have hd2 := List.all_eq_true.1 hq2 c (List.mem_range.2 hclt)
                  rw [hc, hol] at hd2
                  simp only [Bool.or_eq_true, beq_iff_eq, Bool.not_eq_true', List.any_eq_true, Bool.and_eq_true] at hd2
                  rcases hd2 with hd2 | hd2 | ⟨e2, hem2, heb2, hec2⟩
                  · subst hd2; rw [hii] at hcl; cases hcl
                  · rw [← Bool.not_eq_true, List.any_eq_true] at hd2
                    exact hd2 ⟨e, hem, by rw [Bool.and_eq_true, beq_iff_eq]; exact ⟨heb, hej⟩⟩
                  · have := hstep _ (hdep e2 hem2 heb2)
                    rw [hec2, hcl] at this; cases this
      · rw [Array.size_setIfInBounds]; exact J.lsize
    · rw [Array.toList_setIfInBounds, List.count_set (by simpa using hlt)]
      have h2 : listed.toList[i]'(by simpa using hlt) = false := by
        rw [Array.getD_eq_getD_getElem?, Array.getElem?_eq_getElem hlt] at h1
        simpa using h1
      rw [h2, if_pos (show (false == false) = true from rfl), if_neg (by decide)]
      omega
theorem wp_region_from {P : Program} {id : Nat} {l : List Oper} {Q : Exit → Act → World → Prop} {a : Act} {w : World} {B : Nat} (hB : B ≤ w.heap.size) (sat : List Fact) (fin st pu : List Bool) (hm : P.follows .mixedOrders = true) (hk : Keeps sat) (hd : dstOk3 l a.tmps.size = true) (he : edgesOk3 l = true) (hp : Pures sat pu) (hla : lateOk3 l fin st pu = true)
    (hops : OwedAll4 P l Q sat st a B w 0 l)
    (hend : ∀ (f : Nat → Value) (w' : World), Below B w w' → factsAll3 sat fin f w' 0 l → Q .normal (frameOf l a f) w') :
    (Code.region id l.toArray true).wp P Q a w := by
  refine wp_region_any hm (once4_any hB hk hd he hp hla hops ?_ _ _ _ _ ⟨rfl, rfl, fun _ _ => rfl, ?_, ⟨rfl, rfl, rfl, Nat.le_refl _, fun _ _ => rfl⟩, ?_, by simp⟩ ?_)
  · intro a' w' h1 h2 h3 h4 h5
    rw [once_frame h1 h2 h3]
    refine hend _ w' h4 (factsAll3_mk l 0 ?_)
    intro i o d ho hdd hfi
    have hil : i < l.length := by
      rcases Nat.lt_or_ge i l.length with h | h
      · exact h
      · rw [List.getElem?_eq_none h] at ho; cases ho
    have := h5 i hil (by rw [Nat.zero_add] at hfi; exact hfi)
    unfold factAt3 at this
    rw [ho] at this
    simp only [hdd] at this
    rw [Nat.zero_add]
    exact this
  · intro i _ hi
    exfalso
    rw [Array.getD_eq_getD_getElem?, Array.getElem?_replicate] at hi
    split at hi <;> simp at hi
  · intro i hi _
    exfalso
    rw [Array.getD_eq_getD_getElem?, Array.getElem?_replicate] at hi
    split at hi <;> simp at hi
  · simp
/-- What an operation does, it does inside a round of the wide fence. -/
theorem oper_in {P : Program} {o : Oper} {a : Act} {w : World} {K : Act → World → Prop} {Q : Exit → Act → World → Prop} (lr n : Nat) (hnd : ∀ c, o.op ≠ .defer c) (h : o.wp P a w K Q) : o.wpIn (Fence.wide.inRound lr) n P a w K Q := by
  unfold Oper.wpIn
  refine ⟨fun f _ => trivial, ?_⟩
  rw [show (Fence.wide.inRound lr).round = some lr from rfl, Oper.semAt_some lr _ _ hnd]
  unfold Oper.wp at h
  generalize (execOp a.eval o).run P w = r at h ⊢
  cases r with
  | ok x w' =>
    cases x with
    | value v => exact h
    | skip => exact h
    | defer d => exact h
    | enter f args => exact ⟨fun hd => (by cases hd), CallsIn.inRound lr (callsIn_wide.2 h)⟩
    | row row args =>
      refine ⟨fun hd => (by cases hd), ?_⟩
      intro c cs _
      obtain ⟨v, w2, r, s⟩ := h c cs
      exact ⟨v, w2, r, stepsIn_wide.2 s⟩
    | _ => exact h.elim
  | halt x w' => cases x <;> first | exact h | exact h.elim
def noDeferB (l : List Oper) : Bool := l.all fun o => match o.op with | .defer _ => false | _ => true
theorem noDefer {l : List Oper} (h : noDeferB l = true) {i : Nat} {o : Oper} (hi : l[i]? = some o) : ∀ c, o.op ≠ .defer c := by
  intro c e
  have := List.all_eq_true.1 h o (List.mem_of_getElem? hi)
  rw [e] at this
  cases this
theorem wpOpIn_step' {P : Program} {ops : Array Oper} {Q : Exit → Act → World → Prop} {i : Nat} {K : Act → World → Prop} {a : Act} {w : World} {o : Oper} {lr n : Nat} (ho : ops[i]? = some o) (hnd : ∀ c, o.op ≠ .defer c)
    (h : ∀ K' : Act → World → Prop, (∀ a w, K a w → K' a w) → if Region.wanted o (yielded ops a.tmps) = true then Oper.wp P o a w K' Q else K' (a.put o.dst undef) w) : wpOpIn (Fence.wide.inRound lr) n P ops Q i K a w := by
  have h := h K (fun _ _ h => h)
  unfold wpOpIn
  rw [ho]
  simp only
  split
  · rename_i hw
    rw [if_pos hw] at h
    exact oper_in lr n hnd h
  · rename_i hw
    rw [if_neg hw] at h
    exact ⟨fun _ _ => trivial, h⟩
theorem once4_anyIn {P : Program} {l : List Oper} {Q : Exit → Act → World → Prop} {sat : List Fact} {fin st pu : List Bool} {a0 : Act} {B : Nat} {W : World} (hB : B ≤ W.heap.size) {lr n : Nat} (hnd : noDeferB l = true) (hk : Keeps sat) (hd : dstOk3 l a0.tmps.size = true) (he : edgesOk3 l = true) (hp : Pures sat pu) (hla : lateOk3 l fin st pu = true)
    (hops : OwedAll4 P l Q sat st a0 B W 0 l)
    (hend : ∀ (a : Act) (w : World), a.tmps.size = a0.tmps.size → a.defers = a0.defers → (∀ s, (dstsOf l).contains s = false → a.tmps[s]?.getD undef = a0.tmps[s]?.getD undef) → Below B W w → (∀ i, i < l.length → fin.getD i false = true → factAt3 sat l a w i) → Q .normal a w) :
    ∀ (fuel : Nat) (listed : Array Bool) (a : Act) (w : World), OnceJ4 l sat fin a0 B W listed a w → listed.toList.count false ≤ fuel → wpAnyIn (Fence.wide.inRound lr) n P .any l.toArray Q fuel listed a w := by
  intro fuel
  have hfin : ∀ (listed : Array Bool) (a : Act) (w : World), OnceJ4 l sat fin a0 B W listed a w → Region.ready .any l.toArray listed = [] → Q .normal a w := by
    intro listed a w J hr
    refine hend a w J.size J.defers (fun s hs => J.out s fun j o _ ho hd' => ?_) J.low fun i hi hfi => J.facts i ?_ (.inl hfi)
    · have : (dstsOf l).contains s = true := by
        rw [List.contains_iff_mem]
        exact List.mem_filterMap.2 ⟨o, List.mem_of_getElem? ho, hd'⟩
      rw [this] at hs; cases hs
    cases hb : listed.getD i false with
    | true => rfl
    | false => exact absurd hr (ready_some3 he J.lsize hi hb)
  induction fuel with
  | zero =>
    intro listed a w J hc
    have hr : Region.ready .any l.toArray listed = [] := by
      refine Classical.byContradiction fun hn => ?_
      obtain ⟨i, hi⟩ := List.exists_mem_of_ne_nil _ hn
      have h1 := (mem_ready.1 hi).1
      have hlt : i < listed.size := by
        rcases Nat.lt_or_ge i listed.size with h | h
        · exact h
        · rw [Array.getD_eq_getD_getElem?, Array.getElem?_eq_none h] at h1; simp at h1
      rw [Array.getD_eq_getD_getElem?, Array.getElem?_eq_getElem hlt] at h1
      have h2 : false ∈ listed.toList := by
        rw [← show listed[i] = false from h1]
        simp
      have := List.count_pos_iff.2 h2
      omega
    exact ⟨hr, hfin listed a w J hr⟩
  | succ fuel ih =>
    intro listed a w J hc
    refine ⟨hfin listed a w J, ?_⟩
    intro i hi
    obtain ⟨o, ho, hdep⟩ := ready_spec hi
    have h1 := (mem_ready.1 hi).1
    have hol : l[i]? = some o := by simpa using ho
    have hil : i < l.length := by
      rcases Nat.lt_or_ge i l.length with h | h
      · exact h
      · rw [List.getElem?_eq_none h] at hol; cases hol
    have hlt : i < listed.size := by rw [J.lsize]; exact hil
    obtain ⟨d, hob, hdn⟩ := obs_some hd hol
    refine wpOpIn_step' ho (noDefer hnd hol) ?_
    intro K' hK'
    have hO := owedAll4_get l 0 hops i o hol
    rw [Nat.zero_add] at hO
    have h1f : listed.getD i false = false := by
      rw [Array.getD_eq_getD_getElem?, Array.getElem?_eq_getElem hlt] at h1 ⊢
      exact h1
    have hfree : ∀ s, freeAt l i s = true → a.tmps[s]?.getD undef = a0.tmps[s]?.getD undef := by
      intro s hs
      refine J.out s fun j o' hj hoj hds => ?_
      have hjl : j < l.length := by
        rcases Nat.lt_or_ge j l.length with h | h
        · exact h
        · rw [List.getElem?_eq_none h] at hoj; cases hoj
      have := List.all_eq_true.1 hs j (List.mem_range.2 hjl)
      rw [hoj] at this
      simp only [Bool.or_eq_true, bne_iff_ne, beq_iff_eq, List.any_eq_true, Bool.and_eq_true] at this
      rcases this with (h | h) | ⟨e, he, hb, hei⟩
      · exact h hds
      · subst h; rw [h1f] at hj; cases hj
      · have := J.closed j o' hj hoj e he hb
        rw [hei, h1f] at this; cases this
    refine hO a w J.low hfree (factsOf3_mk _ fun e hm hb => J.facts _ (hdep e hm (needs_binds hb)) (.inr ⟨i, o, hol, h1f, e, hm, hb, rfl⟩)) K' ?_
    intro v w' hv hbw
    refine hK' _ _ (ih _ _ _ ?_ ?_)
    · constructor
      · rw [put_size]; exact J.size
      · rw [put_defers]; exact J.defers
      · intro s hs
        have hii : (listed.setIfInBounds i true).getD i false = true := by
          rw [Array.getD_eq_getD_getElem?, Array.getElem?_setIfInBounds, if_pos rfl, if_pos hlt]; rfl
        rw [put_ne a o.dst s v (hs i o hii hol)]
        refine J.out s fun j o' hj hoj => hs j o' ?_ hoj
        by_cases hji : j = i
        · subst hji; exact hii
        · rw [Array.getD_eq_getD_getElem?, Array.getElem?_setIfInBounds, if_neg (fun e => hji e.symm), ← Array.getD_eq_getD_getElem?]; exact hj
      · intro j o' hj hoj e hem hb
        have hstep : ∀ m, listed.getD m false = true → (listed.setIfInBounds i true).getD m false = true := by
          intro m hm
          by_cases hmi : m = i
          · subst hmi; rw [Array.getD_eq_getD_getElem?, Array.getElem?_setIfInBounds, if_pos rfl, if_pos hlt]; rfl
          · rw [Array.getD_eq_getD_getElem?, Array.getElem?_setIfInBounds, if_neg (fun e => hmi e.symm), ← Array.getD_eq_getD_getElem?]; exact hm
        by_cases hji : j = i
        · subst hji
          rw [hol] at hoj
          cases hoj
          exact hstep _ (hdep e hem hb)
        · refine hstep _ (J.closed j o' ?_ hoj e hem hb)
          rw [Array.getD_eq_getD_getElem?, Array.getElem?_setIfInBounds, if_neg (fun e => hji e.symm)] at hj
          rw [Array.getD_eq_getD_getElem?]; exact hj
      · exact J.low.trans (hbw.mono (by cases st.getD i true with | true => exact Nat.le_trans hB J.low.size | false => exact Nat.le_refl _))
      · intro j hj hal
        unfold factAt3
        cases hoj : l[j]? with
        | none => trivial
        | some o' =>
          obtain ⟨d', hd', _⟩ := obs_some hd hoj
          simp only [hd']
          by_cases hji : j = i
          · subst hji
            rw [hol] at hoj
            cases hoj
            rw [hob] at hd'
            cases hd'
            rw [put_obs a hob v (by rw [J.size]; exact hdn)]
            exact hv
          · rw [put_ne a o.dst d' v (by
              intro hdd
              rcases obs_ne hd hoj hol hd' hdd hji with h | ⟨e, he, hb, hei⟩
              · exact h rfl
              · have := J.closed j o' (by
                  rw [Array.getD_eq_getD_getElem?, Array.getElem?_setIfInBounds, if_neg (fun e => hji e.symm)] at hj
                  rw [Array.getD_eq_getD_getElem?]; exact hj) hoj e he hb
                rw [hei, h1f] at this; cases this)]
            have hjl : listed.getD j false = true := by
              rw [Array.getD_eq_getD_getElem?, Array.getElem?_setIfInBounds, if_neg (fun e => hji e.symm)] at hj
              rw [Array.getD_eq_getD_getElem?]; exact hj
            have hstep : ∀ m, listed.getD m false = true → (listed.setIfInBounds i true).getD m false = true := by
              intro m hm
              by_cases hmi : m = i
              · subst hmi; rw [Array.getD_eq_getD_getElem?, Array.getElem?_setIfInBounds, if_pos rfl, if_pos hlt]; rfl
              · rw [Array.getD_eq_getD_getElem?, Array.getElem?_setIfInBounds, if_neg (fun e => hmi e.symm), ← Array.getD_eq_getD_getElem?]; exact hm
            have hii : (listed.setIfInBounds i true).getD i false = true := by
              rw [Array.getD_eq_getD_getElem?, Array.getElem?_setIfInBounds, if_pos rfl, if_pos hlt]; rfl
            have hal0 : aliveAt3 l fin listed j := by
              rcases hal with h | ⟨c, oc, hc, hcl, x⟩
              · exact .inl h
              · refine .inr ⟨c, oc, hc, ?_, x⟩
                cases hq : listed.getD c false with
                | false => rfl
                | true => rw [hstep c hq] at hcl; cases hcl
            have := J.facts j hjl hal0
            unfold factAt3 at this
            rw [hoj] at this
            simp only [hd'] at this
            cases hst : st.getD i true with
            | true => rw [hst] at hbw; exact hk j _ _ _ this hbw
            | false =>
              have hq := List.all_eq_true.1 hla i (List.mem_range.2 hil)
              rw [hst, Bool.false_or] at hq
              have hjlt : j < l.length := by
                rcases Nat.lt_or_ge j l.length with h | h
                · exact h
                · rw [List.getElem?_eq_none h] at hoj; cases hoj
              have hq := List.all_eq_true.1 hq j (List.mem_range.2 hjlt)
              rw [Bool.or_eq_true, Bool.or_eq_true, beq_iff_eq, Bool.and_eq_true] at hq
              rcases hq with (hq | hq) | ⟨hq1, hq2⟩
              · exact absurd hq hji
              · exact hp j hq _ _ _ this
              · exfalso
                rcases hal with h | ⟨c, oc, hc, hcl, e, hem, heb, hej⟩
                · rw [h] at hq1; cases hq1
                · have hclt : c < l.length := by
                    rcases Nat.lt_or_ge c l.length with h | h
                    · exact h
                    · rw [List.getElem?_eq_none h] at hc; cases hc
                  have hd2 := List.all_eq_true.1 hq2 c (List.mem_range.2 hclt)
                  rw [hc, hol] at hd2
                  simp only [Bool.or_eq_true, beq_iff_eq, Bool.not_eq_true', List.any_eq_true, Bool.and_eq_true] at hd2
                  rcases hd2 with hd2 | hd2 | ⟨e2, hem2, heb2, hec2⟩
                  · subst hd2; rw [hii] at hcl; cases hcl
                  · rw [← Bool.not_eq_true, List.any_eq_true] at hd2
                    exact hd2 ⟨e, hem, by rw [Bool.and_eq_true, beq_iff_eq]; exact ⟨heb, hej⟩⟩
                  · have := hstep _ (hdep e2 hem2 heb2)
                    rw [hec2, hcl] at this; cases this
      · rw [Array.size_setIfInBounds]; exact J.lsize
    · rw [Array.toList_setIfInBounds, List.count_set (by simpa using hlt)]
      have h2 : listed.toList[i]'(by simpa using hlt) = false := by
        rw [Array.getD_eq_getD_getElem?, Array.getElem?_eq_getElem hlt] at h1
        simpa using h1
      rw [h2, if_pos (show (false == false) = true from rfl), if_neg (by decide)]
      omega
theorem wpIn_region_from {P : Program} {id : Nat} {l : List Oper} {Q : Exit → Act → World → Prop} {a : Act} {w : World} {B : Nat} (hB : B ≤ w.heap.size) (sat : List Fact) (fin st pu : List Bool) {lr n : Nat} (hnd : noDeferB l = true) (hm : P.follows .mixedOrders = true) (hk : Keeps sat) (hd : dstOk3 l a.tmps.size = true) (he : edgesOk3 l = true) (hp : Pures sat pu) (hla : lateOk3 l fin st pu = true)
    (hops : OwedAll4 P l Q sat st a B w 0 l)
    (hend : ∀ (f : Nat → Value) (w' : World), Below B w w' → factsAll3 sat fin f w' 0 l → Q .normal (frameOf l a f) w') :
    (Code.region id l.toArray true).wpIn (Fence.wide.inRound lr) n P Q a w := by
  refine wpIn_region_any hm (once4_anyIn hB hnd hk hd he hp hla hops ?_ _ _ _ _ ⟨rfl, rfl, fun _ _ => rfl, ?_, ⟨rfl, rfl, rfl, Nat.le_refl _, fun _ _ => rfl⟩, ?_, by simp⟩ ?_)
  · intro a' w' h1 h2 h3 h4 h5
    rw [once_frame h1 h2 h3]
    refine hend _ w' h4 (factsAll3_mk l 0 ?_)
    intro i o d ho hdd hfi
    have hil : i < l.length := by
      rcases Nat.lt_or_ge i l.length with h | h
      · exact h
      · rw [List.getElem?_eq_none h] at ho; cases ho
    have := h5 i hil (by rw [Nat.zero_add] at hfi; exact hfi)
    unfold factAt3 at this
    rw [ho] at this
    simp only [hdd] at this
    rw [Nat.zero_add]
    exact this
  · intro i _ hi
    exfalso
    rw [Array.getD_eq_getD_getElem?, Array.getElem?_replicate] at hi
    split at hi <;> simp at hi
  · intro i hi _
    exfalso
    rw [Array.getD_eq_getD_getElem?, Array.getElem?_replicate] at hi
    split at hi <;> simp at hi
  · simp
theorem owed4_go {P : Program} {l : List Oper} {Q : Exit → Act → World → Prop} {sat : List Fact} {st : List Bool} {a0 : Act} {B : Nat} {W : World} {i : Nat} {o : Oper}
    (h : ∀ (a : Act) (w : World), Below B W w → (∀ s, freeAt l i s = true → a.tmps[s]?.getD undef = a0.tmps[s]?.getD undef) → factsOf3 sat l a w o.after.toList →
      Region.wanted o (yielded l.toArray a.tmps) = true ∧ ∀ K : Act → World → Prop, (∀ v w', (sat.getD i (fun _ _ => True)) (seenBy o a v) w' → Below (bif st.getD i true then w.heap.size else B) w w' → K (a.put o.dst v) w') → Oper.wp P o a w K Q) : Owed4 P l Q sat st a0 B W i o := by
  intro a w hb ho hf K hK
  rw [if_pos (h a w hb ho hf).1]
  exact (h a w hb ho hf).2 K hK
end Go.Proofs.YtngealmhgkoaiaaGreat
/- A region that draws its order, whose last operation comes behind all others and may change whatever memory; plain, and inside a round of a range over a function. -/
namespace Go.Proofs.YtngealmhgkoaiaaGreat
open Go.RowKit
set_option linter.unusedVariables false
/-- the operation q waits for all others, and only its fact is wanted at the end -/
def lastB (l : List Oper) (fin : List Bool) (q : Nat) : Bool :=
  decide (q < l.length) && (List.range l.length).all fun i => i == q || (!fin.getD i false && match l[q]? with | some o => o.after.toList.any fun e => Region.binds .any e && e.on == i | none => false)
theorem last_out {l : List Oper} {fin : List Bool} {q : Nat} (h : lastB l fin q = true) : q < l.length ∧ ∀ i, i < l.length → i ≠ q → fin.getD i false = false ∧ ∃ o, l[q]? = some o ∧ ∃ e ∈ o.after.toList, Region.binds .any e = true ∧ e.on = i := by
  unfold lastB at h
  rw [Bool.and_eq_true, decide_eq_true_iff] at h
  refine ⟨h.1, fun i hi hne => ?_⟩
  have h2 := List.all_eq_true.1 h.2 i (List.mem_range.2 hi)
  rw [Bool.or_eq_true, beq_iff_eq, Bool.and_eq_true, Bool.not_eq_true'] at h2
  rcases h2 with h2 | ⟨h2, h3⟩
  · exact absurd h2 hne
  · refine ⟨h2, ?_⟩
    cases ho : l[q]? with
    | none => rw [ho] at h3; cases h3
    | some o =>
      rw [ho] at h3
      simp only [List.any_eq_true, Bool.and_eq_true, beq_iff_eq] at h3
      obtain ⟨e, he, hb, hei⟩ := h3
      exact ⟨o, rfl, e, he, hb, hei⟩
/-- what is owed for one operation; st: it changes no old memory at all -/
def Owed5 (P : Program) (l : List Oper) (Q : Exit → Act → World → Prop) (sat : List Fact) (q : Nat) (a0 : Act) (W : World) (i : Nat) (o : Oper) : Prop :=
  ∀ (a : Act) (w : World), Below W.heap.size W w → (∀ s, freeAt l i s = true → a.tmps[s]?.getD undef = a0.tmps[s]?.getD undef) → factsOf3 sat l a w o.after.toList →
    ∀ K : Act → World → Prop, (∀ v w', (sat.getD i (fun _ _ => True)) (seenBy o a v) w' → (i ≠ q → Below w.heap.size w w') → K (a.put o.dst v) w') →
      if Region.wanted o (yielded l.toArray a.tmps) = true then Oper.wp P o a w K Q else K (a.put o.dst undef) w
def OwedAll5 (P : Program) (l : List Oper) (Q : Exit → Act → World → Prop) (sat : List Fact) (q : Nat) (a0 : Act) (W : World) : Nat → List Oper → Prop
  | _, [] => True
  | i, o :: os => Owed5 P l Q sat q a0 W i o ∧ OwedAll5 P l Q sat q a0 W (i + 1) os
theorem OwedAll5.nil {P : Program} {l : List Oper} {Q : Exit → Act → World → Prop} {sat : List Fact} {q : Nat} {a0 : Act} {W : World} {i : Nat} : OwedAll5 P l Q sat q a0 W i [] := trivial
theorem OwedAll5.cons {P : Program} {l : List Oper} {Q : Exit → Act → World → Prop} {sat : List Fact} {q : Nat} {a0 : Act} {W : World} {i : Nat} {o : Oper} {os : List Oper} (h : Owed5 P l Q sat q a0 W i o) (t : OwedAll5 P l Q sat q a0 W (i + 1) os) : OwedAll5 P l Q sat q a0 W i (o :: os) := ⟨h, t⟩
theorem owedAll5_get {P : Program} {l : List Oper} {Q : Exit → Act → World → Prop} {sat : List Fact} {q : Nat} {a0 : Act} {W : World} : ∀ (os : List Oper) (k : Nat), OwedAll5 P l Q sat q a0 W k os → ∀ i o, os[i]? = some o → Owed5 P l Q sat q a0 W (k + i) o := by
  intro os
  induction os with
  | nil => intro k _ i o h; simp at h
  | cons x os ih =>
    intro k h i o ho
    cases i with
    | zero => simp at ho; subst ho; exact h.1
    | succ i =>
      have := ih (k + 1) h.2 i o (by simpa using ho)
      rw [show k + (i + 1) = k + 1 + i by omega]; exact this
structure OnceJ5 (l : List Oper) (sat : List Fact) (fin : List Bool) (q : Nat) (a0 : Act) (W : World) (listed : Array Bool) (a : Act) (w : World) : Prop where
  size : a.tmps.size = a0.tmps.size
  defers : a.defers = a0.defers
  out : ∀ s, (∀ j o, listed.getD j false = true → l[j]? = some o → o.dst ≠ some s) → a.tmps[s]?.getD undef = a0.tmps[s]?.getD undef
  closed : ∀ j o, listed.getD j false = true → l[j]? = some o → ∀ e ∈ o.after.toList, Region.binds .any e = true → listed.getD e.on false = true
  low : listed.getD q false = false → Below W.heap.size W w
  facts : ∀ i, listed.getD i false = true → (i = q ∨ listed.getD q false = false) → factAt3 sat l a w i
  lsize : listed.size = l.length
theorem once5_any {P : Program} {l : List Oper} {Q : Exit → Act → World → Prop} {sat : List Fact} {fin : List Bool} {q : Nat} {a0 : Act} {W : World} (hk : Keeps sat) (hd : dstOk3 l a0.tmps.size = true) (he : edgesOk3 l = true) (hla : lastB l fin q = true)
    (hops : OwedAll5 P l Q sat q a0 W 0 l)
    (hend : ∀ (a : Act) (w : World), a.tmps.size = a0.tmps.size → a.defers = a0.defers → (∀ s, (dstsOf l).contains s = false → a.tmps[s]?.getD undef = a0.tmps[s]?.getD undef) → (∀ i, i < l.length → fin.getD i false = true → factAt3 sat l a w i) → Q .normal a w) :
    ∀ (fuel : Nat) (listed : Array Bool) (a : Act) (w : World), OnceJ5 l sat fin q a0 W listed a w → listed.toList.count false ≤ fuel → wpAny P .any l.toArray Q fuel listed a w := by
  intro fuel
  have hfin : ∀ (listed : Array Bool) (a : Act) (w : World), OnceJ5 l sat fin q a0 W listed a w → Region.ready .any l.toArray listed = [] → Q .normal a w := by
    intro listed a w J hr
    refine hend a w J.size J.defers (fun s hs => J.out s fun j o _ ho hd' => ?_) fun i hi hfi => J.facts i ?_ (.inl (Classical.byContradiction fun hne => by rw [((last_out hla).2 i hi hne).1] at hfi; cases hfi))
    · have : (dstsOf l).contains s = true := by
        rw [List.contains_iff_mem]
        exact List.mem_filterMap.2 ⟨o, List.mem_of_getElem? ho, hd'⟩
      rw [this] at hs; cases hs
    cases hb : listed.getD i false with
    | true => rfl
    | false => exact absurd hr (ready_some3 he J.lsize hi hb)
  induction fuel with
  | zero =>
    intro listed a w J hc
    have hr : Region.ready .any l.toArray listed = [] := by
      refine Classical.byContradiction fun hn => ?_
      obtain ⟨i, hi⟩ := List.exists_mem_of_ne_nil _ hn
      have h1 := (mem_ready.1 hi).1
      have hlt : i < listed.size := by
        rcases Nat.lt_or_ge i listed.size with h | h
        · exact h
        · rw [Array.getD_eq_getD_getElem?, Array.getElem?_eq_none h] at h1; simp at h1
      rw [Array.getD_eq_getD_getElem?, Array.getElem?_eq_getElem hlt] at h1
      have h2 : false ∈ listed.toList := by
        rw [← show listed[i] = false from h1]
        simp
      have := List.count_pos_iff.2 h2
      omega
    exact ⟨hr, hfin listed a w J hr⟩
  | succ fuel ih =>
    intro listed a w J hc
    refine ⟨hfin listed a w J, ?_⟩
    intro i hi
    obtain ⟨o, ho, hdep⟩ := ready_spec hi
    have h1 := (mem_ready.1 hi).1
    have hol : l[i]? = some o := by simpa using ho
    have hil : i < l.length := by
      rcases Nat.lt_or_ge i l.length with h | h
      · exact h
      · rw [List.getElem?_eq_none h] at hol; cases hol
    have hlt : i < listed.size := by rw [J.lsize]; exact hil
    obtain ⟨d, hob, hdn⟩ := obs_some hd hol
    refine wpOp_step ho ?_
    intro K' hK'
    have hO := owedAll5_get l 0 hops i o hol
    rw [Nat.zero_add] at hO
    have h1f : listed.getD i false = false := by
      rw [Array.getD_eq_getD_getElem?, Array.getElem?_eq_getElem hlt] at h1 ⊢
      exact h1
    have hfree : ∀ s, freeAt l i s = true → a.tmps[s]?.getD undef = a0.tmps[s]?.getD undef := by
      intro s hs
      refine J.out s fun j o' hj hoj hds => ?_
      have hjl : j < l.length := by
        rcases Nat.lt_or_ge j l.length with h | h
        · exact h
        · rw [List.getElem?_eq_none h] at hoj; cases hoj
      have := List.all_eq_true.1 hs j (List.mem_range.2 hjl)
      rw [hoj] at this
      simp only [Bool.or_eq_true, bne_iff_ne, beq_iff_eq, List.any_eq_true, Bool.and_eq_true] at this
      rcases this with (h | h) | ⟨e, he, hb, hei⟩
      · exact h hds
      · subst h; rw [h1f] at hj; cases hj
      · have := J.closed j o' hj hoj e he hb
        rw [hei, h1f] at this; cases this
    have hq0 : listed.getD q false = false := by
      by_cases hqi : i = q
      · subst hqi; exact h1f
      · cases hbq : listed.getD q false with
        | false => rfl
        | true =>
          obtain ⟨_, o', ho', e, he', hbd, hei⟩ := (last_out hla).2 i hil hqi
          have := J.closed q o' hbq ho' e he' hbd
          rw [hei, h1f] at this
          cases this
    refine hO a w (J.low hq0) hfree (factsOf3_mk _ fun e hm hb => J.facts _ (hdep e hm (needs_binds hb)) (.inr hq0)) K' ?_
    intro v w' hv hbw
    refine hK' _ _ (ih _ _ _ ?_ ?_)
    · constructor
      · rw [put_size]; exact J.size
      · rw [put_defers]; exact J.defers
      · intro s hs
        have hii : (listed.setIfInBounds i true).getD i false = true := by
          rw [Array.getD_eq_getD_getElem?, Array.getElem?_setIfInBounds, if_pos rfl, if_pos hlt]; rfl
        rw [put_ne a o.dst s v (hs i o hii hol)]
        refine J.out s fun j o' hj hoj => hs j o' ?_ hoj
        by_cases hji : j = i
        · subst hji; exact hii
        · rw [Array.getD_eq_getD_getElem?, Array.getElem?_setIfInBounds, if_neg (fun e => hji e.symm), ← Array.getD_eq_getD_getElem?]; exact hj
      · intro j o' hj hoj e hem hb
        have hstep : ∀ m, listed.getD m false = true → (listed.setIfInBounds i true).getD m false = true := by
          intro m hm
          by_cases hmi : m = i
          · subst hmi; rw [Array.getD_eq_getD_getElem?, Array.getElem?_setIfInBounds, if_pos rfl, if_pos hlt]; rfl
          · rw [Array.getD_eq_getD_getElem?, Array.getElem?_setIfInBounds, if_neg (fun e => hmi e.symm), ← Array.getD_eq_getD_getElem?]; exact hm
        by_cases hji : j = i
        · subst hji
          rw [hol] at hoj
          cases hoj
          exact hstep _ (hdep e hem hb)
        · refine hstep _ (J.closed j o' ?_ hoj e hem hb)
          rw [Array.getD_eq_getD_getElem?, Array.getElem?_setIfInBounds, if_neg (fun e => hji e.symm)] at hj
          rw [Array.getD_eq_getD_getElem?]; exact hj
      · intro hl
        have hiq : i ≠ q := by
          intro e
          subst e
          rw [Array.getD_eq_getD_getElem?, Array.getElem?_setIfInBounds, if_pos rfl, if_pos hlt] at hl
          cases hl
        exact (J.low hq0).trans ((hbw hiq).mono (J.low hq0).size)
      · intro j hj hal
        unfold factAt3
        cases hoj : l[j]? with
        | none => trivial
        | some o' =>
          obtain ⟨d', hd', _⟩ := obs_some hd hoj
          simp only [hd']
          by_cases hji : j = i
          · subst hji
            rw [hol] at hoj
            cases hoj
            rw [hob] at hd'
            cases hd'
            rw [put_obs a hob v (by rw [J.size]; exact hdn)]
            exact hv
          · rw [put_ne a o.dst d' v (by
              intro hdd
              rcases obs_ne hd hoj hol hd' hdd hji with h | ⟨e, he, hb, hei⟩
              · exact h rfl
              · have := J.closed j o' (by
                  rw [Array.getD_eq_getD_getElem?, Array.getElem?_setIfInBounds, if_neg (fun e => hji e.symm)] at hj
                  rw [Array.getD_eq_getD_getElem?]; exact hj) hoj e he hb
                rw [hei, h1f] at this; cases this)]
            have hjl : listed.getD j false = true := by
              rw [Array.getD_eq_getD_getElem?, Array.getElem?_setIfInBounds, if_neg (fun e => hji e.symm)] at hj
              rw [Array.getD_eq_getD_getElem?]; exact hj
            have hstep : ∀ m, listed.getD m false = true → (listed.setIfInBounds i true).getD m false = true := by
              intro m hm
              by_cases hmi : m = i
              · subst hmi; rw [Array.getD_eq_getD_getElem?, Array.getElem?_setIfInBounds, if_pos rfl, if_pos hlt]; rfl
              · rw [Array.getD_eq_getD_getElem?, Array.getElem?_setIfInBounds, if_neg (fun e => hmi e.symm), ← Array.getD_eq_getD_getElem?]; exact hm
            have hii : (listed.setIfInBounds i true).getD i false = true := by
              rw [Array.getD_eq_getD_getElem?, Array.getElem?_setIfInBounds, if_pos rfl, if_pos hlt]; rfl
            have := J.facts j hjl (.inr hq0)
            unfold factAt3 at this
            rw [hoj] at this
            simp only [hd'] at this
            by_cases hiq : i = q
            · exfalso
              rcases hal with h | h
              · exact hji (h.trans hiq.symm)
              · rw [← hiq, hii] at h; cases h
            · exact hk j _ _ _ this (hbw hiq)
      · rw [Array.size_setIfInBounds]; exact J.lsize
    · rw [Array.toList_setIfInBounds, List.count_set (by simpa using hlt)]
      have h2 : listed.toList[i]'(by simpa using hlt) = false := by
        rw [Array.getD_eq_getD_getElem?, Array.getElem?_eq_getElem hlt] at h1
        simpa using h1
      rw [h2, if_pos (show (false == false) = true from rfl), if_neg (by decide)]
      omega
theorem wp_region_last {P : Program} {id : Nat} {l : List Oper} {Q : Exit → Act → World → Prop} {a : Act} {w : World} (sat : List Fact) (fin : List Bool) (q : Nat) (hm : P.follows .mixedOrders = true) (hk : Keeps sat) (hd : dstOk3 l a.tmps.size = true) (he : edgesOk3 l = true) (hla : lastB l fin q = true)
    (hops : OwedAll5 P l Q sat q a w 0 l)
    (hend : ∀ (f : Nat → Value) (w' : World), factsAll3 sat fin f w' 0 l → Q .normal (frameOf l a f) w') :
    (Code.region id l.toArray true).wp P Q a w := by
  refine wp_region_any hm (once5_any hk hd he hla hops ?_ _ _ _ _ ⟨rfl, rfl, fun _ _ => rfl, ?_, fun _ => ⟨rfl, rfl, rfl, Nat.le_refl _, fun _ _ => rfl⟩, ?_, by simp⟩ ?_)
  · intro a' w' h1 h2 h3 h5
    rw [once_frame h1 h2 h3]
    refine hend _ w' (factsAll3_mk l 0 ?_)
    intro i o d ho hdd hfi
    have hil : i < l.length := by
      rcases Nat.lt_or_ge i l.length with h | h
      · exact h
      · rw [List.getElem?_eq_none h] at ho; cases ho
    have := h5 i hil (by rw [Nat.zero_add] at hfi; exact hfi)
    unfold factAt3 at this
    rw [ho] at this
    simp only [hdd] at this
    rw [Nat.zero_add]
    exact this
  · intro i _ hi
    exfalso
    rw [Array.getD_eq_getD_getElem?, Array.getElem?_replicate] at hi
    split at hi <;> simp at hi
  · intro i hi _
    exfalso
    rw [Array.getD_eq_getD_getElem?, Array.getElem?_replicate] at hi
    split at hi <;> simp at hi
  · simp
theorem once5_anyIn {P : Program} {l : List Oper} {Q : Exit → Act → World → Prop} {sat : List Fact} {fin : List Bool} {q : Nat} {a0 : Act} {W : World} {lr n : Nat} (hnd : noDeferB l = true) (hk : Keeps sat) (hd : dstOk3 l a0.tmps.size = true) (he : edgesOk3 l = true) (hla : lastB l fin q = true)
    (hops : OwedAll5 P l Q sat q a0 W 0 l)
    (hend : ∀ (a : Act) (w : World), a.tmps.size = a0.tmps.size → a.defers = a0.defers → (∀ s, (dstsOf l).contains s = false → a.tmps[s]?.getD undef = a0.tmps[s]?.getD undef) → (∀ i, i < l.length → fin.getD i false = true → factAt3 sat l a w i) → Q .normal a w) :
    ∀ (fuel : Nat) (listed : Array Bool) (a : Act) (w : World), OnceJ5 l sat fin q a0 W listed a w → listed.toList.count false ≤ fuel → wpAnyIn (Fence.wide.inRound lr) n P .any l.toArray Q fuel listed a w := by
  intro fuel
  have hfin : ∀ (listed : Array Bool) (a : Act) (w : World), OnceJ5 l sat fin q a0 W listed a w → Region.ready .any l.toArray listed = [] → Q .normal a w := by
    intro listed a w J hr
    refine hend a w J.size J.defers (fun s hs => J.out s fun j o _ ho hd' => ?_) fun i hi hfi => J.facts i ?_ (.inl (Classical.byContradiction fun hne => by rw [((last_out hla).2 i hi hne).1] at hfi; cases hfi))
    · have : (dstsOf l).contains s = true := by
        rw [List.contains_iff_mem]
        exact List.mem_filterMap.2 ⟨o, List.mem_of_getElem? ho, hd'⟩
      rw [this] at hs; cases hs
    cases hb : listed.getD i false with
    | true => rfl
    | false => exact absurd hr (ready_some3 he J.lsize hi hb)
  induction fuel with
  | zero =>
    intro listed a w J hc
    have hr : Region.ready .any l.toArray listed = [] := by
      refine Classical.byContradiction fun hn => ?_
      obtain ⟨i, hi⟩ := List.exists_mem_of_ne_nil _ hn
      have h1 := (mem_ready.1 hi).1
      have hlt : i < listed.size := by
        rcases Nat.lt_or_ge i listed.size with h | h
        · exact h
        · rw [Array.getD_eq_getD_getElem?, Array.getElem?_eq_none h] at h1; simp at h1
      rw [Array.getD_eq_getD_getElem?, Array.getElem?_eq_getElem hlt] at h1
      have h2 : false ∈ listed.toList := by
        rw [← show listed[i] = false from h1]
        simp
      have := List.count_pos_iff.2 h2
      omega
    exact ⟨hr, hfin listed a w J hr⟩
  | succ fuel ih =>
    intro listed a w J hc
    refine ⟨hfin listed a w J, ?_⟩
    intro i hi
    obtain ⟨o, ho, hdep⟩ := ready_spec hi
    have h1 := (mem_ready.1 hi).1
    have hol : l[i]? = some o := by simpa using ho
    have hil : i < l.length := by
      rcases Nat.lt_or_ge i l.length with h | h
      · exact h
      · rw [List.getElem?_eq_none h] at hol; cases hol
    have hlt : i < listed.size := by rw [J.lsize]; exact hil
    obtain ⟨d, hob, hdn⟩ := obs_some hd hol
    refine wpOpIn_step' ho (noDefer hnd hol) ?_
    intro K' hK'
    have hO := owedAll5_get l 0 hops i o hol
    rw [Nat.zero_add] at hO
    have h1f : listed.getD i false = false := by
      rw [Array.getD_eq_getD_getElem?, Array.getElem?_eq_getElem hlt] at h1 ⊢
      exact h1
    have hfree : ∀ s, freeAt l i s = true → a.tmps[s]?.getD undef = a0.tmps[s]?.getD undef := by
      intro s hs
      refine J.out s fun j o' hj hoj hds => ?_
      have hjl : j < l.length := by
        rcases Nat.lt_or_ge j l.length with h | h
        · exact h
        · rw [List.getElem?_eq_none h] at hoj; cases hoj
      have := List.all_eq_true.1 hs j (List.mem_range.2 hjl)
      rw [hoj] at this
      simp only [Bool.or_eq_true, bne_iff_ne, beq_iff_eq, List.any_eq_true, Bool.and_eq_true] at this
      rcases this with (h | h) | ⟨e, he, hb, hei⟩
      · exact h hds
      · subst h; rw [h1f] at hj; cases hj
      · have := J.closed j o' hj hoj e he hb
        rw [hei, h1f] at this; cases this
    have hq0 : listed.getD q false = false := by
      by_cases hqi : i = q
      · subst hqi; exact h1f
      · cases hbq : listed.getD q false with
        | false => rfl
        | true =>
          obtain ⟨_, o', ho', e, he', hbd, hei⟩ := (last_out hla).2 i hil hqi
          have := J.closed q o' hbq ho' e he' hbd
          rw [hei, h1f] at this
          cases this
    refine hO a w (J.low hq0) hfree (factsOf3_mk _ fun e hm hb => J.facts _ (hdep e hm (needs_binds hb)) (.inr hq0)) K' ?_
    intro v w' hv hbw
    refine hK' _ _ (ih _ _ _ ?_ ?_)
    · constructor
      · rw [put_size]; exact J.size
      · rw [put_defers]; exact J.defers
      · intro s hs
        have hii : (listed.setIfInBounds i true).getD i false = true := by
          rw [Array.getD_eq_getD_getElem?, Array.getElem?_setIfInBounds, if_pos rfl, if_pos hlt]; rfl
        rw [put_ne a o.dst s v (hs i o hii hol)]
        refine J.out s fun j o' hj hoj => hs j o' ?_ hoj
        by_cases hji : j = i
        · subst hji; exact hii
        · rw [Array.getD_eq_getD_getElem?, Array.getElem?_setIfInBounds, if_neg (fun e => hji e.symm), ← Array.getD_eq_getD_getElem?]; exact hj
      · intro j o' hj hoj e hem hb
        have hstep : ∀ m, listed.getD m false = true → (listed.setIfInBounds i true).getD m false = true := by
          intro m hm
          by_cases hmi : m = i
          · subst hmi; rw [Array.getD_eq_getD_getElem?, Array.getElem?_setIfInBounds, if_pos rfl, if_pos hlt]; rfl
          · rw [Array.getD_eq_getD_getElem?, Array.getElem?_setIfInBounds, if_neg (fun e => hmi e.symm), ← Array.getD_eq_getD_getElem?]; exact hm
        by_cases hji : j = i
        · subst hji
          rw [hol] at hoj
          cases hoj
          exact hstep _ (hdep e hem hb)
        · refine hstep _ (J.closed j o' ?_ hoj e hem hb)
          rw [Array.getD_eq_getD_getElem?, Array.getElem?_setIfInBounds, if_neg (fun e => hji e.symm)] at hj
          rw [Array.getD_eq_getD_getElem?]; exact hj
      · intro hl
        have hiq : i ≠ q := by
          intro e
          subst e
          rw [Array.getD_eq_getD_getElem?, Array.getElem?_setIfInBounds, if_pos rfl, if_pos hlt] at hl
          cases hl
        exact (J.low hq0).trans ((hbw hiq).mono (J.low hq0).size)
      · intro j hj hal
        unfold factAt3
        cases hoj : l[j]? with
        | none => trivial
        | some o' =>
          obtain ⟨d', hd', _⟩ := obs_some hd hoj
          simp only [hd']
          by_cases hji : j = i
          · subst hji
            rw [hol] at hoj
            cases hoj
            rw [hob] at hd'
            cases hd'
            rw [put_obs a hob v (by rw [J.size]; exact hdn)]
            exact hv
          · rw [put_ne a o.dst d' v (by
              intro hdd
              rcases obs_ne hd hoj hol hd' hdd hji with h | ⟨e, he, hb, hei⟩
              · exact h rfl
              · have := J.closed j o' (by
                  rw [Array.getD_eq_getD_getElem?, Array.getElem?_setIfInBounds, if_neg (fun e => hji e.symm)] at hj
                  rw [Array.getD_eq_getD_getElem?]; exact hj) hoj e he hb
                rw [hei, h1f] at this; cases this)]
            have hjl : listed.getD j false = true := by
              rw [Array.getD_eq_getD_getElem?, Array.getElem?_setIfInBounds, if_neg (fun e => hji e.symm)] at hj
              rw [Array.getD_eq_getD_getElem?]; exact hj
            have hstep : ∀ m, listed.getD m false = true → (listed.setIfInBounds i true).getD m false = true := by
              intro m hm
              by_cases hmi : m = i
              · subst hmi; rw [Array.getD_eq_getD_getElem?, Array.getElem?_setIfInBounds, if_pos rfl, if_pos hlt]; rfl
              · rw [Array.getD_eq_getD_getElem?, Array.getElem?_setIfInBounds, if_neg (fun e => hmi e.symm), ← Array.getD_eq_getD_getElem?]; exact hm
            have hii : (listed.setIfInBounds i true).getD i false = true := by
              rw [Array.getD_eq_getD_getElem?, Array.getElem?_setIfInBounds, if_pos rfl, if_pos hlt]; rfl
            have := J.facts j hjl (.inr hq0)
            unfold factAt3 at this
            rw [hoj] at this
            simp only [hd'] at this
            by_cases hiq : i = q
            · exfalso
              rcases hal with h | h
              · exact hji (h.trans hiq.symm)
              · rw [← hiq, hii] at h; cases h
            · exact hk j _ _ _ this (hbw hiq)
      · rw [Array.size_setIfInBounds]; exact J.lsize
    · rw [Array.toList_setIfInBounds, List.count_set (by simpa using hlt)]
      have h2 : listed.toList[i]'(by simpa using hlt) = false := by
        rw [Array.getD_eq_getD_getElem?, Array.getElem?_eq_getElem hlt] at h1
        simpa using h1
      rw [h2, if_pos (show (false == false) = true from rfl), if_neg (by decide)]
      omega
theorem wpIn_region_last {P : Program} {id : Nat} {l : List Oper} {Q : Exit → Act → World → Prop} {a : Act} {w : World} (sat : List Fact) (fin : List Bool) (q : Nat) {lr n : Nat} (hnd : noDeferB l = true) (hm : P.follows .mixedOrders = true) (hk : Keeps sat) (hd : dstOk3 l a.tmps.size = true) (he : edgesOk3 l = true) (hla : lastB l fin q = true)
    (hops : OwedAll5 P l Q sat q a w 0 l)
    (hend : ∀ (f : Nat → Value) (w' : World), factsAll3 sat fin f w' 0 l → Q .normal (frameOf l a f) w') :
    (Code.region id l.toArray true).wpIn (Fence.wide.inRound lr) n P Q a w := by
  refine wpIn_region_any hm (once5_anyIn hnd hk hd he hla hops ?_ _ _ _ _ ⟨rfl, rfl, fun _ _ => rfl, ?_, fun _ => ⟨rfl, rfl, rfl, Nat.le_refl _, fun _ _ => rfl⟩, ?_, by simp⟩ ?_)
  · intro a' w' h1 h2 h3 h5
    rw [once_frame h1 h2 h3]
    refine hend _ w' (factsAll3_mk l 0 ?_)
    intro i o d ho hdd hfi
    have hil : i < l.length := by
      rcases Nat.lt_or_ge i l.length with h | h
      · exact h
      · rw [List.getElem?_eq_none h] at ho; cases ho
    have := h5 i hil (by rw [Nat.zero_add] at hfi; exact hfi)
    unfold factAt3 at this
    rw [ho] at this
    simp only [hdd] at this
    rw [Nat.zero_add]
    exact this
  · intro i _ hi
    exfalso
    rw [Array.getD_eq_getD_getElem?, Array.getElem?_replicate] at hi
    split at hi <;> simp at hi
  · intro i hi _
    exfalso
    rw [Array.getD_eq_getD_getElem?, Array.getElem?_replicate] at hi
    split at hi <;> simp at hi
  · simp
theorem owed5_go {P : Program} {l : List Oper} {Q : Exit → Act → World → Prop} {sat : List Fact} {q : Nat} {a0 : Act} {W : World} {i : Nat} {o : Oper}
    (h : ∀ (a : Act) (w : World), Below W.heap.size W w → (∀ s, freeAt l i s = true → a.tmps[s]?.getD undef = a0.tmps[s]?.getD undef) → factsOf3 sat l a w o.after.toList →
      Region.wanted o (yielded l.toArray a.tmps) = true ∧ ∀ K : Act → World → Prop, (∀ v w', (sat.getD i (fun _ _ => True)) (seenBy o a v) w' → (i ≠ q → Below w.heap.size w w') → K (a.put o.dst v) w') → Oper.wp P o a w K Q) : Owed5 P l Q sat q a0 W i o := by
  intro a w hb ho hf K hK
  rw [if_pos (h a w hb ho hf).1]
  exact (h a w hb ho hf).2 K hK
end Go.Proofs.YtngealmhgkoaiaaGreat
