/- 'append(s, make([]T, k)...)' on a slice that the call owns, whose elements take several cells. -/
import Derived.Test.YtngealmhgkoaiaaGreatZTreeBytes02
import Derived.Lib.AppendZerosOnto
namespace Go.Proofs.YtngealmhgkoaiaaGreat
open Go.RowKit
set_option linter.unusedVariables false
theorem run_app_zerosK {P : Program} {w : World} (t tn ty e : TypeId) (z : Value) (kc bytes : Nat) (F : ElemK P t e z kc bytes) (kn : IntKind) (htn : P.underlying tn = some (.int kn)) {B : Nat} (v : Value) (n : Nat) (xs : List Value) (hown : OwnK w B e kc v n xs)
    (hn0 : 0 < n) (k : Nat) (hk : 0 < k) (h1 : ∀ u ∈ (Builtin.zeroCells z.cells k).toList, u.oneCell' = true) (hn : n + k < 137438953472) (hB : B ≤ w.heap.size) :
    ∃ v' w', (Builtin.append_ #[t, tn] ty #[v, .int .i64 (k : Nat)]).run P w = .ok v' w' ∧ OwnK w' B e kc v' (n + k) (xs ++ (Builtin.zeroCells z.cells k).toList) ∧ w.grownBy w' v.ownBlock := by
  obtain ⟨i, hi, hz, hsz, hby⟩ := info_partsK F.inf
  have low := F.low
  have ht := F.ty
  have hpos := F.pos
  have hzs := F.one
  have hsizeZ : ∀ k, (Builtin.zeroCells z.cells k).size = k * kc := fun k => by rw [size_zeroCells, hzs]
  have hlz : (Builtin.zeroCells z.cells k).toList.length = k * kc := (Array.length_toList (xs := Builtin.zeroCells z.cells k)).trans (hsizeZ k)
  have hmul : (n + k) * bytes ≤ (n + k) * 512 := Nat.mul_le_mul_left _ low
  have hmul2 : k * bytes ≤ k * 512 := Nat.mul_le_mul_left _ low
  have hl : xs.length = n * kc := hown.1
  have hlen : (xs ++ (Builtin.zeroCells z.cells k).toList).length = (n + k) * kc := by rw [List.length_append, hlz, hl, Nat.add_mul]
  have grown : ∀ (old : Nat), old < n + k → ∀ (row : Option Nat),
      OwnK (w.drew.alloc (.cells (xs.toArray ++ Builtin.zeroCells z.cells k ++ Builtin.zeroCells z.cells (grownCap w (n + k) old e - (n + k))) e)) B e kc
        (.slice (some ⟨w.heap.size, 0, none⟩) (n + k) (grownCap w (n + k) old e)) (n + k) (xs ++ (Builtin.zeroCells z.cells k).toList) ∧
      w.grownBy (w.drew.alloc (.cells (xs.toArray ++ Builtin.zeroCells z.cells k ++ Builtin.zeroCells z.cells (grownCap w (n + k) old e - (n + k))) e)) row := by
    intro old ho row
    have hge := grownCap_ge w (n + k) old e
    have hcm : grownCap w (n + k) old e ≤ maxLen := grownCap_le_maxLen w (n + k) old e (by unfold maxLen; omega)
    refine ⟨⟨hlen, .inr ⟨w.heap.size, _, _, rfl, hB, heap_alloc_new w.drew _, hge, hcm, ?_, ?_⟩⟩, ⟨rfl, rfl, rfl, by simp, fun j hj _ => heap_alloc_old w.drew _ hj⟩⟩
    · simp only [Array.size_append, List.size_toArray, hsizeZ]
      rw [hl, ← Nat.add_mul, ← Nat.add_mul]
      congr 1
      omega
    · simp only [Array.toList_append]
      rw [← hlen]
      exact List.take_left
  have hown' := hown
  obtain ⟨_, hc⟩ := hown'
  rcases hc with ⟨rfl, h0⟩ | ⟨g, cp, cur, rfl, hbg, hg, hnc, hcm, hcs, htake⟩
  · omega
  · by_cases hroom : n + k ≤ cp
    · have hcap : n * kc + k * kc ≤ cp * kc := by rw [← Nat.add_mul]; exact Nat.mul_le_mul_right _ hroom
      have hst := run_storeCells_at P g (n * kc) e (Builtin.zeroCells z.cells k).toList 0 cur w hg (by rw [hlz]; omega) h1
      simp only [Nat.add_zero] at hst
      have hw : IntKind.i64.wrap (k : Int) = k := by rw [IntKind.wrap_i64]; omega
      have hneg : ¬ ((k : Int) < 0) := by omega
      have h48i : ¬ (281474976710656 < (k : Int) * (i.bytes : Int)) := by
        rw [← Int.natCast_mul, hby]
        omega
      have hns : ¬ (k * kc = 0) := Nat.mul_ne_zero (by omega) (by omega)
      refine ⟨.slice (some ⟨g, 0, none⟩) (n + k) cp, w.setRow g (cur.toList.take (n * kc) ++ (Builtin.zeroCells z.cells k).toList ++ cur.toList.drop (n * kc + (Builtin.zeroCells z.cells k).toList.length)).toArray, ?_, ?_, ?_⟩
      · have hst' : (storeCells ⟨g, n * kc, none⟩ (Builtin.zeroCells z.cells k).toList).run P w = _ := hst
        simp [Builtin.append_, run_underlying ht, run_underlying htn, sizeOf, typeInfo, zeroValue, hi, hz, hsz, asInt, asIntOf, hw, hroom, hneg, h48i, hns, Addr.add_lit, hst']
      · refine ⟨hlen, .inr ⟨g, cp, _, rfl, hbg, setRow_heap w g cur _ e _ hg, hroom, hcm, ?_, ?_⟩⟩
        · simp only [List.size_toArray, List.length_append, List.length_take, List.length_drop, Array.length_toList, hsizeZ]
          omega
        · rw [htake, ← hlen]
          exact List.take_left
      · exact ⟨rfl, rfl, rfl, by simp, fun k _ hk => setRow_other w g k _ (fun e => hk (by simp [Value.ownBlock, e]))⟩
    · have holds : ∀ j u, xs[j]? = some u → w.cell? ((⟨g, 0, none⟩ : Addr).add j) = some u := World.ownsRow.cells (g := g) hown rfl
      have hold := run_firstCells_some (P := P) w.drew i.size n ⟨g, 0, none⟩ n cp xs (by rw [hsz]; exact hl) (by simpa using holds)
      have hr := Lib.run_append_grow_zeros (P := P) w t tn ty e i z .i64 kn ht htn hi hz (some ⟨g, 0, none⟩) n cp xs hold k hk (by omega) (by omega) (by omega) (by rw [hby]; omega) (growslice_fits (by omega) (by rw [hby]; omega))
      have hgr := grown cp (by omega) (Value.ownBlock (.slice (some ⟨g, 0, none⟩) n cp))
      exact ⟨_, _, hr, hgr.1, hgr.2⟩
/-- an append of which the run is known -/
theorem wpList_app_run {P : Program} {w : World} {ops : Array Oper} {rest : List Oper} {o : Oper} {a : Act} {Q : Exit → Act → World → Prop} (hgd : o.guard = none) (s x : Operand) (t tn : TypeId)
    (ho : o.op = .call { callee := .builtin .append, args := #[s, x], argTypes := #[t, tn] }) (v k' : Value) (hs : a.eval s = v) (hx : a.eval x = k') (v' : Value) (w' : World)
    (hrun : (Builtin.append_ #[t, tn] o.type #[v, k']).run P w = .ok v' w') (h : wpList P ops Q rest (a.put o.dst v') w') : wpList P ops Q (o :: rest) a w := by
  refine wpList_plain hgd fun K hK => ?_
  unfold Oper.wp
  simp [execOp, ho, resolve, invoke, builtin, hs, hx, hrun, Result.andThen]
  exact hK _ _ h
end Go.Proofs.YtngealmhgkoaiaaGreat
