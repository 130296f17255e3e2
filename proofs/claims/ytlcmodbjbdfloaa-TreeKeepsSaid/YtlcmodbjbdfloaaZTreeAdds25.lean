/- Walks: slices.Grow of nil, slices.Concat of one part, sha.Of. -/
import Derived.Test.YtlcmodbjbdfloaaZTreeAdds23
import Derived.Test.YtlcmodbjbdfloaaZTreeAdds24
namespace Go.Proofs.Ytlcmodbjbdfloaa
open Go.RowKit ShaM WireM
set_option linter.unusedVariables false
theorem shaF_len (L : List Nat) : (shaF L).length = 32 := by
  unfold shaF
  rw [← outN_end (blocksN_ok _ HL0_len HL0_lt _).1, outN_len]
theorem zcN (n : Nat) : (Builtin.zeroCells (Value.int .u8 0).cells n).toList = bvs (List.replicate n 0) := by
  refine List.ext_getElem (by simp [Builtin.zeroCells, Value.cells]) fun i h1 h2 => ?_
  simp [Builtin.zeroCells, Value.cells, Nat.mod_one, bvs]
theorem Own.take0 {w : World} {B : Nat} {e : TypeId} {a : Option Addr} {n c : Nat} {xs : List Value} (h : Own w B e (.slice a n c) xs) : Own w B e (.slice a 0 c) [] := by
  obtain ⟨h1, h2⟩ := h
  refine ⟨by simp, ?_⟩
  rcases h2 with ⟨h2, h3⟩ | ⟨g, cp, cur, e', hb, hg, hn, hm, hs, ht⟩
  · simp only [Value.slice.injEq] at h2
    obtain ⟨rfl, rfl, rfl⟩ := h2
    exact .inl ⟨rfl, rfl⟩
  · simp only [Value.slice.injEq] at e'
    obtain ⟨rfl, rfl, rfl⟩ := e'
    exact .inr ⟨g, c, cur, rfl, hb, hg, by simp, hm, hs, by simp⟩
end Go.Proofs.Ytlcmodbjbdfloaa
