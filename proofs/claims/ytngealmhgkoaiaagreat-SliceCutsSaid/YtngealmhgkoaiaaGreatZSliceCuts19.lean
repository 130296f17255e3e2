/- As OnceSt; the memory that is written begins at a block B, old or new; inside a round of a range over a function, too. -/
import Derived.Test.YtngealmhgkoaiaaGreatZSliceCutsB
import Derived.Test.YtngealmhgkoaiaaGreatZSliceCuts08
import Derived.OrdersIn
import Derived.RangeFuncCalls
open List renaming range → aF, any_eq_true → bZ, getElem?_eq_none → aK
open Bool renaming and_eq_true → cE, not_eq_true' → dN, or_eq_true → cF
open Nat renaming lt_or_ge → aB, zero_add → cR
open Array renaming getD_eq_getD_getElem? → cM, getElem?_eq_getElem → cK, getElem?_setIfInBounds → cO, getElem?_replicate → cQ
set_option linter.unusedVariables false
set_option maxRecDepth 100000
set_option maxHeartbeats 40000000
namespace Go.Proofs.YtngealmhgkoaiaaGreat
open Go.RowKit
def Zk (l : List Oper) (fin tl : List Bool) (q : Nat) : Bool :=
 decide (q < l.length) && !tl.getD q false && (aF l.length).all fun i => i == q || (if tl.getD i false then (match l[i]? with | some o => (o.after.toList.any fun e => Region.binds .any e && e.on == q) && o.after.toList.all fun e => !Si e || e.on == q || tl.getD e.on false | none => false) else (!fin.getD i false && (aF l.length).any fun j => decide (i < j) && !tl.getD j false && match l[j]? with | some o => o.after.toList.any fun e => Region.binds .any e && e.on == i | none => false))
theorem Kq {l : List Oper} {fin tl : List Bool} {q : Nat} (h : Zk l fin tl q = true) : q < l.length ∧ tl.getD q false = false ∧ (∀ i, i < l.length → i ≠ q → tl.getD i false = false → fin.getD i false = false ∧ ∃ j o, i < j ∧ j < l.length ∧ tl.getD j false = false ∧ l[j]? = some o ∧ ∃ e ∈ o.after.toList, Region.binds .any e = true ∧ e.on = i) ∧
  (∀ i o, l[i]? = some o → tl.getD i false = true → (∃ e ∈ o.after.toList, Region.binds .any e = true ∧ e.on = q) ∧ ∀ e ∈ o.after.toList, Si e = true → e.on = q ∨ tl.getD e.on false = true) := by
 unfold Zk at h; rw [cE, cE, decide_eq_true_iff, dN] at h; refine ⟨h.1.1, h.1.2, fun i hi hne htl => ?_, fun i o ho htl => ?_⟩
 ·have h2 := List.all_eq_true.1 h.2 i (List.mem_range.2 hi); rw [htl, cF, beq_iff_eq] at h2; rcases h2 with h2 | h2
  ·exact absurd h2 hne
  ·simp only [Bool.false_eq_true, if_false, cE, dN] at h2; obtain ⟨h2, h3⟩ := h2; refine ⟨h2, ?_⟩; obtain ⟨j, hj, h3⟩ := List.any_eq_true.1 h3; simp only [cE, decide_eq_true_iff, dN] at h3; obtain ⟨⟨hij, htj⟩, h3⟩ := h3; cases ho : l[j]? with
   | none => rw [ho] at h3; cases h3
   | some o =>
    rw [ho] at h3; simp only [bZ, cE, beq_iff_eq] at h3; obtain ⟨e, he, hb, hei⟩ := h3; exact ⟨j, o, hij, List.mem_range.1 hj, htj, ho, e, he, hb, hei⟩
 ·have hi : i < l.length := by
   rcases aB i l.length with h | h
   ·exact h
   ·rw [aK h] at ho; cases ho
  have h2 := List.all_eq_true.1 h.2 i (List.mem_range.2 hi); rw [htl, cF, beq_iff_eq, ho] at h2; rcases h2 with h2 | h2
  ·subst h2; rw [h.1.2] at htl; cases htl
  ·simp only [if_true, cE, bZ, beq_iff_eq, List.all_eq_true, cF, dN] at h2; obtain ⟨⟨e, he, hb, hei⟩, h3⟩ := h2; refine ⟨⟨e, he, hb, hei⟩, fun e' he' hn => ?_⟩; rcases h3 e' he' with (h4 | h4) | h4
   ·rw [h4] at hn; cases hn
   ·exact .inl h4
   ·exact .inr h4
theorem Su {l : List Oper} {fin tl : List Bool} {q : Nat} (h : Zk l fin tl q = true) {listed : Array Bool} (hc : ∀ j o, listed.getD j false = true → l[j]? = some o → ∀ e ∈ o.after.toList, Region.binds .any e = true → listed.getD e.on false = true) (hq : listed.getD q false = true) :
  ∀ n i, l.length - i ≤ n → i < l.length → tl.getD i false = false → listed.getD i false = true := by
 intro n
 induction n with
 | zero => intro i h1 h2; omega
 | succ n ih =>
  intro i h1 h2 h3
  by_cases hiq : i = q
  ·subst hiq; exact hq
  ·obtain ⟨_, j, o, hij, hj, htj, ho, e, he, hb, hei⟩ := (Kq h).2.2.1 i h2 hiq h3; have := hc j o (ih j (by omega) hj htj) ho e he hb; rw [hei] at this; exact this
def Zcy (P : Program) (l : List Oper) (Q : Exit → Act → World → Prop) (sat : List Dr) (tl : List Bool) (q : Nat) (a0 : Act) (W : World) (i : Nat) (o : Oper) : Prop :=
 ∀ (a : Act) (w : World), (tl.getD i false = false → Below W.heap.size W w) → (∀ s, Ck l i s = true → a.tmps[s]?.getD undef = a0.tmps[s]?.getD undef) → Fv sat l a w o.after.toList →
  ∀ K : Act → World → Prop, (∀ v w', (sat.getD i (fun _ _ => True)) (Cl o a v) w' → (i ≠ q → Below w.heap.size w w') → K (a.put o.dst v) w') →
   if Region.wanted o (yielded l.toArray a.tmps) = true then Oper.wp P o a w K Q else K (a.put o.dst undef) w
def OwedAll6 (P : Program) (l : List Oper) (Q : Exit → Act → World → Prop) (sat : List Dr) (tl : List Bool) (q : Nat) (a0 : Act) (W : World) : Nat → List Oper → Prop
 | _, [] => True
 | i, o :: os => Zcy P l Q sat tl q a0 W i o ∧ OwedAll6 P l Q sat tl q a0 W (i + 1) os
theorem OwedAll6.nil {P : Program} {l : List Oper} {Q : Exit → Act → World → Prop} {sat : List Dr} {tl : List Bool} {q : Nat} {a0 : Act} {W : World} {i : Nat} : OwedAll6 P l Q sat tl q a0 W i [] := trivial
theorem OwedAll6.cons {P : Program} {l : List Oper} {Q : Exit → Act → World → Prop} {sat : List Dr} {tl : List Bool} {q : Nat} {a0 : Act} {W : World} {i : Nat} {o : Oper} {os : List Oper} (h : Zcy P l Q sat tl q a0 W i o) (t : OwedAll6 P l Q sat tl q a0 W (i + 1) os) : OwedAll6 P l Q sat tl q a0 W i (o :: os) := ⟨h, t⟩
theorem Qg {P : Program} {l : List Oper} {Q : Exit → Act → World → Prop} {sat : List Dr} {tl : List Bool} {q : Nat} {a0 : Act} {W : World} : ∀ (os : List Oper) (k : Nat), OwedAll6 P l Q sat tl q a0 W k os → ∀ i o, os[i]? = some o → Zcy P l Q sat tl q a0 W (k + i) o := by
 intro os
 induction os with
 | nil => intro k _ i o h; simp at h
 | cons x os ih =>
  intro k h i o ho; cases i with
  | zero => simp at ho; subst ho; exact h.1
  | succ i =>
   have := ih (k + 1) h.2 i o (by simpa using ho); rw [show k + (i + 1) = k + 1 + i by omega]; exact this
structure OnceJ6 (l : List Oper) (sat : List Dr) (fin tl : List Bool) (q : Nat) (a0 : Act) (W : World) (listed : Array Bool) (a : Act) (w : World) : Prop where
 size : a.tmps.size = a0.tmps.size
 defers : a.defers = a0.defers
 out : ∀ s, (∀ j o, listed.getD j false = true → l[j]? = some o → o.dst ≠ some s) → a.tmps[s]?.getD undef = a0.tmps[s]?.getD undef
 closed : ∀ j o, listed.getD j false = true → l[j]? = some o → ∀ e ∈ o.after.toList, Region.binds .any e = true → listed.getD e.on false = true
 low : listed.getD q false = false → Below W.heap.size W w
 facts : ∀ i, listed.getD i false = true → (i = q ∨ tl.getD i false = true ∨ listed.getD q false = false) → Bu sat l a w i
 lsize : listed.size = l.length
theorem Zl {P : Program} {l : List Oper} {Q : Exit → Act → World → Prop} {sat : List Dr} {fin tl : List Bool} {q : Nat} {a0 : Act} {W : World} (hk : Sf sat) (hd : Ih l a0.tmps.size = true) (he : Ei l = true) (hla : Zk l fin tl q = true)
  (hops : OwedAll6 P l Q sat tl q a0 W 0 l)
  (hend : ∀ (a : Act) (w : World), a.tmps.size = a0.tmps.size → a.defers = a0.defers → (∀ s, (Av l).contains s = false → a.tmps[s]?.getD undef = a0.tmps[s]?.getD undef) → (∀ i, i < l.length → fin.getD i false = true → Bu sat l a w i) → Q .normal a w) :
  ∀ (fuel : Nat) (listed : Array Bool) (a : Act) (w : World), OnceJ6 l sat fin tl q a0 W listed a w → listed.toList.count false ≤ fuel → wpAny P .any l.toArray Q fuel listed a w := by
 intro fuel; have hfin : ∀ (listed : Array Bool) (a : Act) (w : World), OnceJ6 l sat fin tl q a0 W listed a w → Region.ready .any l.toArray listed = [] → Q .normal a w := by
  intro listed a w J hr; refine hend a w J.size J.defers (fun s hs => J.out s fun j o _ ho hd' => ?_) fun i hi hfi => J.facts i ?_ (by
   by_cases hne : i = q
   ·exact .inl hne
   ·cases htl : tl.getD i false with
    | true => exact .inr (.inl rfl)
    | false => rw [((Kq hla).2.2.1 i hi hne htl).1] at hfi; cases hfi)
  ·have : (Av l).contains s = true := by
    rw [List.contains_iff_mem]; exact List.mem_filterMap.2 ⟨o, List.mem_of_getElem? ho, hd'⟩
   rw [this] at hs; cases hs
  cases hb : listed.getD i false with
  | true => rfl
  | false => exact absurd hr (Hx he J.lsize hi hb)
 induction fuel with
 | zero =>
  intro listed a w J hc; have hr : Region.ready .any l.toArray listed = [] := by
   refine Classical.byContradiction fun hn => ?_; obtain ⟨i, hi⟩ := List.exists_mem_of_ne_nil _ hn; have h1 := (mem_ready.1 hi).1; have hlt : i < listed.size := by
    rcases aB i listed.size with h | h
    ·exact h
    ·rw [cM, Array.getElem?_eq_none h] at h1; simp at h1
   rw [cM, cK hlt] at h1; have h2 : false ∈ listed.toList := by
    rw [← show listed[i] = false from h1]; simp
   have := List.count_pos_iff.2 h2; omega
  exact ⟨hr, hfin listed a w J hr⟩
 | succ fuel ih =>
  intro listed a w J hc; refine ⟨hfin listed a w J, ?_⟩; intro i hi; obtain ⟨o, ho, hdep⟩ := Jc hi; have h1 := (mem_ready.1 hi).1; have hol : l[i]? = some o := (by simpa using ho); have hil : i < l.length := by
   rcases aB i l.length with h | h
   ·exact h
   ·rw [aK h] at hol; cases hol
  have hlt : i < listed.size := (by rw [J.lsize]; exact hil); obtain ⟨d, hob, hdn⟩ := Hg hd hol; refine wpOp_step ho ?_; intro K' hK'; have hO := Qg l 0 hops i o hol; rw [cR] at hO; have h1f : listed.getD i false = false := by
   rw [cM, cK hlt] at h1 ⊢; exact h1
  have hfree : ∀ s, Ck l i s = true → a.tmps[s]?.getD undef = a0.tmps[s]?.getD undef := by
   intro s hs; refine J.out s fun j o' hj hoj hds => ?_; have hjl : j < l.length := by
    rcases aB j l.length with h | h
    ·exact h
    ·rw [aK h] at hoj; cases hoj
   have := List.all_eq_true.1 hs j (List.mem_range.2 hjl); rw [hoj] at this; simp only [cF, bne_iff_ne, beq_iff_eq, bZ, cE] at this; rcases this with (h | h) | ⟨e, he, hb, hei⟩
   ·exact h hds
   ·subst h; rw [h1f] at hj; cases hj
   ·have := J.closed j o' hj hoj e he hb; rw [hei, h1f] at this; cases this
  have hq0 : tl.getD i false = false → listed.getD q false = false := by
   intro htl
   by_cases hqi : i = q
   ·subst hqi; exact h1f
   ·cases hbq : listed.getD q false with
    | false => rfl
    | true =>
     have := Su hla J.closed hbq (l.length - i) i lR hil htl; rw [h1f] at this; cases this
  refine hO a w (fun htl => J.low (hq0 htl)) hfree (Sk _ fun e hm hb => J.facts _ (hdep e hm (Sj hb)) (by
   cases htl : tl.getD i false with
   | false => exact .inr (.inr (hq0 htl))
   | true => rcases ((Kq hla).2.2.2 i o hol htl).2 e hm hb with h | h
             ·exact .inl h
             ·exact .inr (.inl h))) K' ?_
  intro v w' hv hbw; refine hK' _ _ (ih _ _ _ ?_ ?_)
  ·constructor
   ·rw [Ob]; exact J.size
   ·rw [Jf]; exact J.defers
   ·intro s hs; have hii : (listed.setIfInBounds i true).getD i false = true := by
     rw [cM, cO, if_pos rfl, if_pos hlt]; rfl
    rw [Mu a o.dst s v (hs i o hii hol)]; refine J.out s fun j o' hj hoj => hs j o' ?_ hoj
    by_cases hji : j = i
    ·subst hji; exact hii
    ·rw [cM, cO, if_neg (fun e => hji e.symm), ← cM]; exact hj
   ·intro j o' hj hoj e hem hb; have hstep : ∀ m, listed.getD m false = true → (listed.setIfInBounds i true).getD m false = true := by
     intro m hm
     by_cases hmi : m = i
     ·subst hmi; rw [cM, cO, if_pos rfl, if_pos hlt]; rfl
     ·rw [cM, cO, if_neg (fun e => hmi e.symm), ← cM]; exact hm
    by_cases hji : j = i
    ·subst hji; rw [hol] at hoj; cases hoj; exact hstep _ (hdep e hem hb)
    ·refine hstep _ (J.closed j o' ?_ hoj e hem hb); rw [cM, cO, if_neg (fun e => hji e.symm)] at hj; rw [cM]; exact hj
   ·intro hl; have hiq : i ≠ q := by
     intro e; subst e; rw [cM, cO, if_pos rfl, if_pos hlt] at hl; cases hl
    have hl' : listed.getD q false = false := by
     rw [cM, cO, if_neg hiq, ← cM] at hl; exact hl
    exact (J.low hl').trans ((hbw hiq).mono (J.low hl').size)
   ·intro j hj hal; unfold Bu; cases hoj : l[j]? with
    | none => trivial
    | some o' =>
     obtain ⟨d', hd', _⟩ := Hg hd hoj; simp only [hd']
     by_cases hji : j = i
     ·subst hji; rw [hol] at hoj; cases hoj; rw [hob] at hd'; cases hd'; rw [Sl a hob v (by rw [J.size]; exact hdn)]; exact hv
     ·rw [Mu a o.dst d' v (by
       intro hdd; rcases Yh hd hoj hol hd' hdd hji with h | ⟨e, he, hb, hei⟩
       ·exact h rfl
       ·have := J.closed j o' (by
         rw [cM, cO, if_neg (fun e => hji e.symm)] at hj; rw [cM]; exact hj) hoj e he hb
        rw [hei, h1f] at this; cases this)]
      have hjl : listed.getD j false = true := by
       rw [cM, cO, if_neg (fun e => hji e.symm)] at hj; rw [cM]; exact hj
      have hstep : ∀ m, listed.getD m false = true → (listed.setIfInBounds i true).getD m false = true := by
       intro m hm
       by_cases hmi : m = i
       ·subst hmi; rw [cM, cO, if_pos rfl, if_pos hlt]; rfl
       ·rw [cM, cO, if_neg (fun e => hmi e.symm), ← cM]; exact hm
      have hii : (listed.setIfInBounds i true).getD i false = true := by
       rw [cM, cO, if_pos rfl, if_pos hlt]; rfl
      by_cases hiq : i = q
      ·exfalso; rcases hal with h | h | h
       ·exact hji (h.trans hiq.symm)
       ·obtain ⟨e, he, hb, hei⟩ := ((Kq hla).2.2.2 j o' hoj h).1; have := J.closed j o' hjl hoj e he hb; rw [hei, ← hiq, h1f] at this; cases this
       ·rw [← hiq, hii] at h; cases h
      ·have := J.facts j hjl (by
        rcases hal with h | h | h
        ·exact .inl h
        ·exact .inr (.inl h)
        ·right; right
         rw [cM, cO, if_neg hiq, ← cM] at h; exact h)
       unfold Bu at this; rw [hoj] at this; simp only [hd'] at this; exact hk j _ _ _ this (hbw hiq)
   ·rw [Array.size_setIfInBounds]; exact J.lsize
  ·rw [Array.toList_setIfInBounds, List.count_set (by simpa using hlt)]; have h2 : listed.toList[i]'(by simpa using hlt) = false := by
    rw [cM, cK hlt] at h1; simpa using h1
   rw [h2, if_pos (show (false == false) = true from rfl), if_neg (by decide)]; omega
theorem Ht {P : Program} {id : Nat} {l : List Oper} {Q : Exit → Act → World → Prop} {a : Act} {w : World} (sat : List Dr) (fin tl : List Bool) (q : Nat) (hm : P.follows .mixedOrders = true) (hk : Sf sat) (hd : Ih l a.tmps.size = true) (he : Ei l = true) (hla : Zk l fin tl q = true)
  (hops : OwedAll6 P l Q sat tl q a w 0 l)
  (hend : ∀ (f : Nat → Value) (w' : World), Fl sat fin f w' 0 l → Q .normal (Ao l a f) w') :
  (Code.region id l.toArray true).wp P Q a w := by
 refine wp_region_any hm (Zl hk hd he hla hops ?_ _ _ _ _ ⟨rfl, rfl, fun _ _ => rfl, ?_, fun _ => ⟨rfl, rfl, rfl, lR, fun _ _ => rfl⟩, ?_, by simp⟩ ?_)
 ·intro a' w' h1 h2 h3 h5; rw [Jd h1 h2 h3]; refine hend _ w' (Gt l 0 ?_); intro i o d ho hdd hfi; have hil : i < l.length := by
   rcases aB i l.length with h | h
   ·exact h
   ·rw [aK h] at ho; cases ho
  have := h5 i hil (by rw [cR] at hfi; exact hfi); unfold Bu at this; rw [ho] at this; simp only [hdd] at this; rw [cR]; exact this
 ·intro i _ hi; exfalso; rw [cM, cQ] at hi
  split at hi <;> simp at hi
 ·intro i hi _; exfalso; rw [cM, cQ] at hi
  split at hi <;> simp at hi
 ·simp
theorem Oi {P : Program} {l : List Oper} {Q : Exit → Act → World → Prop} {sat : List Dr} {tl : List Bool} {q : Nat} {a0 : Act} {W : World} {i : Nat} {o : Oper}
  (h : ∀ (a : Act) (w : World), (tl.getD i false = false → Below W.heap.size W w) → (∀ s, Ck l i s = true → a.tmps[s]?.getD undef = a0.tmps[s]?.getD undef) → Fv sat l a w o.after.toList →
   Region.wanted o (yielded l.toArray a.tmps) = true ∧ ∀ K : Act → World → Prop, (∀ v w', (sat.getD i (fun _ _ => True)) (Cl o a v) w' → (i ≠ q → Below w.heap.size w w') → K (a.put o.dst v) w') → Oper.wp P o a w K Q) : Zcy P l Q sat tl q a0 W i o := by
 intro a w hb ho hf K hK; rw [if_pos (h a w hb ho hf).1]; exact (h a w hb ho hf).2 K hK
section
section
variable {P : Program} {l : List Oper} {Q : Exit → Act → World → Prop} {sat : List Dr} {tl : List Bool} {q : Nat} {a0 : Act} {W : World} {i : Nat} {o : Oper} {os : List Oper}
theorem kT {x : Value} (t : Sf sat) : Sf (eF x :: sat) := Ds (fun _ _ _ h _ => h) t
theorem gU (htl : tl.getD i false = false) (h : ∀ (a : Act) (w : World), Below W.heap.size W w → (∀ s, Ck l i s = true → a.tmps[s]?.getD undef = a0.tmps[s]?.getD undef) → Fv sat l a w o.after.toList →
      Region.wanted o (yielded l.toArray a.tmps) = true ∧ ∀ K : Act → World → Prop, (∀ v w', (sat.getD i (fun _ _ => True)) (Cl o a v) w' → (i ≠ q → Below w.heap.size w w') → K (a.put o.dst v) w') → Oper.wp P o a w K Q)
  (t : OwedAll6 P l Q sat tl q a0 W (i + 1) os) : OwedAll6 P l Q sat tl q a0 W i (o :: os) := .cons (Oi fun a w h1 h2 h3 => h a w (h1 htl) h2 h3) t
theorem gT (htl : tl.getD i false = false) (h : ∀ (a : Act) (w : World), Below W.heap.size W w → (∀ s, Ck l i s = true → a.tmps[s]?.getD undef = a0.tmps[s]?.getD undef) → Fv sat l a w o.after.toList →
      Region.wanted o (yielded l.toArray a.tmps) = true ∧ ∀ K : Act → World → Prop, (∀ v, (sat.getD i (fun _ _ => True)) (Cl o a v) w → K (a.put o.dst v) w) → Hid (Oper.wp P o a w K Q))
  (t : OwedAll6 P l Q sat tl q a0 W (i + 1) os) : OwedAll6 P l Q sat tl q a0 W i (o :: os) :=
 gU htl (fun a w h1 h2 h3 => ⟨(h a w h1 h2 h3).1, fun K hK => ((h a w h1 h2 h3).2 K fun v hv => hK v w hv fun _ => bR).out⟩) t
end
end
end Go.Proofs.YtngealmhgkoaiaaGreat
