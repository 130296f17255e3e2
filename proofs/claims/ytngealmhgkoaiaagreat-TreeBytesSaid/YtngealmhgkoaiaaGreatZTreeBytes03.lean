/- Arguments as they come in, in the vocabulary of Mem: lists of numbers. -/
import Derived.Test.YtngealmhgkoaiaaGreatZTreeBytes02
import Derived.ProofKit
import Derived.OpenShut
import Derived.ShutString
import Derived.ChangeOld
namespace Go.Proofs.YtngealmhgkoaiaaGreat
open Go.ChangeShapes Go.WideShapes Go.ChangeAt Go.RowKit

/-- Bytes as values. -/
def bvs (L : List Nat) : List Value := L.map fun n : Nat => .int .u8 (n : Int)
/-- Numbers of a kind as values. -/
def ivs (k : IntKind) (L : List Int) : List Value := L.map fun n => .int k n

theorem nat_u8 {a : Int} (h : (Lit.int .u8 a).wf = true) : ∃ n : Nat, n < 256 ∧ a = (n : Int) := by
  have := bounds_u8 h
  exact ⟨a.toNat, by omega, by omega⟩
theorem nat_u64 {a : Int} (h : (Lit.int .u64 a).wf = true) : ∃ n : Nat, n < 18446744073709551616 ∧ a = (n : Int) := by
  have := bounds_u64 h
  exact ⟨a.toNat, by omega, by omega⟩
theorem bd_i64 {a : Int} (h : (Lit.int .i64 a).wf = true) : -9223372036854775808 ≤ a ∧ a ≤ 9223372036854775807 := by
  have := bounds_i64 h
  omega

section
variable {H : Type} {enc : TypeId × Value → H} {P : Program}
theorem open_row {T E : TypeId} {k : IntKind} (hT : P.underlying T = some (.slice E)) (hE : P.underlying E = some (.int k)) (hc : P.cellsOf E = 1) {W : World} {v : Value} {d : DataW H} {p : List MemPlace}
    {base : Nat} (ok : Value.okWide P W .any base T v) (h : DataW.Trod enc P W 0 (fun _ => true) true T v d p) :
    ∃ zs : List Int, (∀ n ∈ zs, (Lit.int k n).wf = true) ∧ Rd W v (ivs k zs) := by
  obtain ⟨a, len, cap, rfl⟩ := okWide_slice hT ok
  obtain ⟨fuel, hf⟩ := h
  rcases open_ints hT hE hc hf with ⟨hcs, _⟩ | ⟨x, l, c, zs, hcs, _, hl, hm, hz, _, hcell, hwz⟩
  · simp [Value.cells] at hcs
    obtain ⟨rfl, rfl, rfl⟩ := hcs
    exact ⟨[], by simp, none, 0, rfl, Nat.le_refl _, Nat.zero_le _, .inl ⟨rfl, fun _ => rfl⟩⟩
  · simp [Value.cells] at hcs
    obtain ⟨rfl, rfl, rfl⟩ := hcs
    have hz' : zs.length = cap := by simpa using hz
    have hlen : (ivs k (zs.take len)).length = len := by simp [ivs]; omega
    refine ⟨zs.take len, fun n hn => hwz n (List.mem_of_mem_take hn), some x, cap, by rw [hlen], by rw [hlen]; exact hl, hm, ?_⟩
    by_cases h0 : len = 0
    · left; subst h0; simp [ivs]
    · right
      obtain ⟨b, off, spot⟩ := x
      have hc0 := hcell 0 (by omega)
      have hspot : spot = none := by simpa [Addr.add] using World.cell?_spot hc0
      subst hspot
      refine ⟨b, off, rfl, ?_⟩
      intro j u hu
      have hj : j < len := by
        rcases Nat.lt_or_ge j len with h | h
        · exact h
        · rw [List.getElem?_eq_none (by rw [hlen]; exact h)] at hu; cases hu
      have := hcell j (by omega)
      rw [Addr.add_lit] at this
      rw [this, ← hu]
      simp [ivs, hj, show j < zs.length from by omega]
theorem open_bytes {T E : TypeId} (hT : P.underlying T = some (.slice E)) (hE : P.underlying E = some (.int .u8)) (hc : P.cellsOf E = 1) {W : World} {v : Value} {d : DataW H} {p : List MemPlace}
    {base : Nat} (ok : Value.okWide P W .any base T v) (h : DataW.Trod enc P W 0 (fun _ => true) true T v d p) :
    ∃ L : List Nat, (∀ n ∈ L, n < 256) ∧ Rd W v (bvs L) := by
  obtain ⟨zs, hz, hr⟩ := open_row hT hE hc ok h
  refine ⟨zs.map Int.toNat, ?_, ?_⟩
  · intro n hn
    obtain ⟨z, hz', rfl⟩ := List.mem_map.1 hn
    obtain ⟨n, hn, rfl⟩ := nat_u8 (hz z hz')
    omega
  · have : bvs (zs.map Int.toNat) = ivs .u8 zs := by
      simp only [bvs, ivs, List.map_map]
      apply List.map_congr_left
      intro z hz'
      obtain ⟨n, _, rfl⟩ := nat_u8 (hz z hz')
      simp
    rw [this]; exact hr
end
end Go.Proofs.YtngealmhgkoaiaaGreat
