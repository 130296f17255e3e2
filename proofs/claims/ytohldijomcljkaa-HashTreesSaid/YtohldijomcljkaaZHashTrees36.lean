/- Walks: the reference's Digest. -/
import Derived.Test.YtohldijomcljkaaZHashTrees35
import Derived.Test.YtohldijomcljkaaZHashTrees32
import Derived.Test.YtohldijomcljkaaZHashTrees27
import Derived.Test.YtohldijomcljkaaZHashTrees17
import Derived.Test.YtohldijomcljkaaZHashTrees15
import Derived.Test.YtohldijomcljkaaZHashTrees19
namespace Go.Proofs.Ytohldijomcljkaa
open Go.RowKit ShaM WireM
set_option linter.unusedVariables false
set_option maxRecDepth 100000 in
set_option maxHeartbeats 1000000 in
theorem digest_any (v : Value) (L : List Nat) (w : World) (h : Rd w v (bvs L)) (hL : ∀ x ∈ L, x < 256) (hl : L.length ≤ 1000000) :
    Calls Try.prog 28 #[v] w fun e w' => ∃ v', e = .returned v' ∧ Own w' w.heap.size 5 v' (bvs (shaF L)) ∧ Below w.heap.size w w' := by
  have TB := Lib.hid (table_any w)
  have RS := Lib.hid (fun (W : World) (hw : Below w.heap.size w W) (vh vk : Value) (hh : Rd W vh (qvs HL0)) (hk : Rd W vk (qvs KL)) => rsum_any v vh vk L W (h.below hw (Nat.le_refl _)) hh hk hL hl)
  clear h hL hl
  go_enter Try.func28, Try.ntmps28
  go_wp2_with fail
  refine (TB.out).mono ?_
  rintro e w1 ⟨v1, v2, rfl, h1, h2, hb⟩
  have C := Lib.hid (RS.out w1 hb v1 v2 h1 h2)
  have HB := Lib.hid hb
  clear h1 h2 hb
  go_wp2_with fail
  refine (C.out).mono ?_
  rintro e w2 ⟨v3, rfl, hown, hb2⟩
  have HO := Lib.hid hown
  have HB2 := Lib.hid (HB.out.trans (hb2.mono HB.out.size))
  clear hown hb2
  go_wp2_with fail
  go_ret
  exact ⟨_, rfl, HO.out.mono HB.out.size, HB2.out⟩
end Go.Proofs.Ytohldijomcljkaa
/- Walks: the reference's Hash of any node of a tree that may be, without some leaves' places. -/
namespace Go.Proofs.Ytohldijomcljkaa
open Go.RowKit WalkM ShaM WireM
set_option linter.unusedVariables false
set_option maxRecDepth 100000 in
set_option maxHeartbeats 1000000 in
theorem rhash_of (t : List NodeD) (ps : List Int) (hs : smallT t = true) (hok : TreeOk t) (k : Nat) (hT : RTextP t ps k) : RHashP t ps k := by
  intro x v vp w h hpr hlev hx
  have C := Lib.hid (hT x v vp w h hpr hlev hx)
  have hl := textN_len (woD_small hs ps) k x
  have hlt := textN_lt' (woD t ps) (woD_ok hok ps) (woD_small hs ps) k x
  have HE := Lib.hid (hashN_eq (woD t ps) k x)
  obtain ⟨TX, hTX⟩ : ∃ T, T = textN (woD t ps) k x := ⟨_, rfl⟩
  rw [← hTX] at C hl hlt HE
  rw [HE.out]
  have HL := Lib.hid (show TX.length ≤ 1000000 by omega)
  have HLT := Lib.hid hlt
  obtain ⟨a1, a2, a3, rfl⟩ : ∃ a b c, v = .slice a b c := by obtain ⟨a, c, e, _⟩ := h.sl; exact ⟨_, _, _, e⟩
  clear hl hlt hTX h hpr hlev hx hT
  go_enter Try.func20, Try.ntmps20
  go_wp2_with fail
  refine (C.out).mono ?_
  rintro e w1 ⟨v1, rfl, hown, hb⟩
  have HR := Lib.hid hown.rd
  have HB := Lib.hid hb
  clear hown hb
  go_wp2_with fail
  refine (digest_any _ TX w1 HR.out HLT.out HL.out).mono ?_
  rintro e w2 ⟨v2, rfl, hown, hb⟩
  have HO := Lib.hid (hown.mono HB.out.size)
  have HB2 := Lib.hid (HB.out.trans (hb.mono HB.out.size))
  clear hown hb
  go_wp2_with fail
  go_ret
  exact ⟨_, rfl, HO.out, HB2.out⟩
theorem rboth_any (t : List NodeD) (ps : List Int) (hs : smallT t = true) (hok : TreeOk t) (hp : placedB t = true) : ∀ k, RTextP t ps k ∧ RHashP t ps k := by
  intro k
  induction k with
  | zero => have h := rtext_zero t ps hs hok hp; exact ⟨h, rhash_of t ps hs hok 0 h⟩
  | succ k ih => have h := rtext_succ t ps hs hok hp k ih.2; exact ⟨h, rhash_of t ps hs hok (k + 1) h⟩
end Go.Proofs.Ytohldijomcljkaa
/- Plain: which leaves count. -/
namespace Go.Proofs.Ytohldijomcljkaa
open Go.RowKit WalkM
set_option linter.unusedVariables false
/-- has one of the first r nodes that count a leaf? -/
def someU (t : List NodeD) (N r : Nat) : Bool := (List.range r).any fun i => (nd t i).kind == 1 && (N == 1 || decide (N ≤ i))
theorem someU_succ (t : List NodeD) (N r : Nat) : someU t N (r + 1) = (someU t N r || ((nd t r).kind == 1 && (N == 1 || decide (N ≤ r)))) := by
  unfold someU; rw [List.range_succ, List.any_append]; simp
theorem someU_all {t : List NodeD} {N : Nat} (h : leavesN t.length = N) (hN : N ≤ t.length) : someU t N t.length = someB t := by
  have key : someU t N t.length = true ↔ someB t = true := by
    unfold someU someB someK
    rw [h, List.any_eq_true]
    constructor
    · rintro ⟨i, hi, hk⟩
      rw [List.mem_range] at hi
      rw [Bool.and_eq_true, beq_iff_eq, Bool.or_eq_true, beq_iff_eq, decide_eq_true_iff] at hk
      have hd : (nd t i) = t[i] := by rw [nd, List.getD_eq_getElem?_getD, List.getElem?_eq_getElem hi]; rfl
      by_cases h1 : N = 1
      · rw [if_pos h1, List.any_eq_true]
        exact ⟨t[i], List.getElem_mem hi, by rw [← hd, beq_iff_eq]; exact hk.1⟩
      · rw [if_neg h1, List.any_eq_true]
        have hni : N ≤ i := by rcases hk.2 with h2 | h2; exact absurd h2 h1; exact h2
        refine ⟨t[i], ?_, by rw [← hd, beq_iff_eq]; exact hk.1⟩
        rw [List.mem_drop_iff_getElem]
        exact ⟨i - N, by omega, by congr 1; omega⟩
    · intro hs
      by_cases h1 : N = 1
      · rw [if_pos h1, List.any_eq_true] at hs
        obtain ⟨d, hd, hk⟩ := hs
        obtain ⟨i, hi, rfl⟩ := List.getElem_of_mem hd
        refine ⟨i, List.mem_range.2 hi, ?_⟩
        have hd : (nd t i) = t[i] := by rw [nd, List.getD_eq_getElem?_getD, List.getElem?_eq_getElem hi]; rfl
        rw [hd, hk, h1]; rfl
      · rw [if_neg h1, List.any_eq_true] at hs
        obtain ⟨d, hd, hk⟩ := hs
        obtain ⟨i, hi, e⟩ := List.mem_drop_iff_getElem.1 hd
        refine ⟨N + i, List.mem_range.2 (by omega), ?_⟩
        have hd : (nd t (N + i)) = d := by rw [nd, List.getD_eq_getElem?_getD, List.getElem?_eq_getElem (by omega), ← e]; rfl
        rw [hd, hk, Bool.true_and, Bool.or_eq_true, decide_eq_true_iff]
        exact .inr (by omega)
  cases h1 : someU t N t.length <;> cases h2 : someB t <;> simp_all
end Go.Proofs.Ytohldijomcljkaa
/- Drawn regions: operations whose guards do not hold. -/
namespace Go.Proofs.Ytohldijomcljkaa
open Go.RowKit
set_option linter.unusedVariables false
/-- an operation whose guard does not hold leaves nothing -/
theorem wanted_off {o : Oper} {ops : Array Oper} {tmps : Array Value} {j : Nat} {b : Bool} {oj : Oper} {s : Tmp} {v : Value} (hg : o.guard = some (j, b)) (hj : ops[j]? = some oj) (hs : oj.dst = some s) (hv : tmps[s]?.getD undef = v) (hne : v ≠ .bool b) : Region.wanted o (yielded ops tmps) = false := by
  have hy : yielded ops tmps j ≠ some b := by
    unfold yielded
    rw [hj, Option.bind_some, hs, Option.bind_some]
    cases ht : tmps[s]? with
    | none => simp
    | some x =>
      rw [ht] at hv
      have hx : x = v := hv
      subst hx
      intro h
      cases x <;> simp_all
  unfold Region.wanted
  rw [hg]
  simp [hy]
theorem owed2_off {P : Program} {l : List Oper} {Q : Exit → Act → World → Prop} {sat : List Fact} {st : List Bool} {a0 : Act} {W : World} {i : Nat} {o : Oper} (hs : sat.getD i (fun _ _ => True) = fun v _ => v = undef)
    (h : ∀ (a : Act) (w : World), Below W.heap.size W w → (∀ s, freeAt l i s = true → a.tmps[s]?.getD undef = a0.tmps[s]?.getD undef) → factsOf sat l a w o.after.toList → Region.wanted o (yielded l.toArray a.tmps) = false) : Owed2 P l Q sat st a0 W i o := by
  intro a w hb ho hf K hK
  rw [if_neg (by rw [h a w hb ho hf]; simp)]
  exact hK undef w (by rw [hs]) (Below.refl _ _)

end Go.Proofs.Ytohldijomcljkaa
