/- Walks: sha.words. -/
import Derived.Test.YtlcmodbjbdfloaaZTreeAdds05
import Derived.Test.YtlcmodbjbdfloaaZTreeAdds02
import Derived.Test.YtlcmodbjbdfloaaZTreeAdds17
import Derived.BigRegion
namespace Go.Proofs.Ytlcmodbjbdfloaa
open Go.RowKit ShaM
set_option linter.unusedVariables false
/-- words as cells -/
def u32s (L : List Nat) : List Value := L.map fun (n : Nat) => .int .u32 (n : Int)
def u32a (L : List Nat) : Array Value := (u32s L).toArray
theorem u32s_len (L : List Nat) : (u32s L).length = L.length := by simp [u32s]
theorem u32a_size (L : List Nat) : (u32a L).size = L.length := by simp [u32a, u32s]
theorem u32a_get {L : List Nat} {i : Nat} (h : i < L.length) : (u32a L)[i]? = some (.int .u32 ((L.getD i 0 : Nat) : Int)) := by
  simp [u32a, u32s, List.getD_eq_getElem?_getD, h]
theorem u32a_set (L : List Nat) (i n : Nat) : (u32a L).setIfInBounds i (.int .u32 (n : Int)) = u32a (L.set i n) := by
  simp [u32a, u32s]
theorem u32a_one (L : List Nat) : (u32a L).all (·.oneCell') = true := by
  rw [Array.all_eq_true_iff_forall_mem]
  intro x hx
  simp only [u32a, u32s, List.mem_toArray, List.mem_map] at hx
  obtain ⟨n, _, rfl⟩ := hx
  rfl
def Z64 : Array Value := u32a (List.replicate 64 0)
/-- the words so far, zeros behind -/
def wP (B : List Nat) (t : Nat) : List Nat := wL B t ++ List.replicate (64 - t) 0
theorem wP_zero (B : List Nat) : u32a (wP B 0) = Z64 := by rw [wP, wL, List.nil_append, Nat.sub_zero, Z64]
theorem wP_len (B : List Nat) {t : Nat} (h : t ≤ 64) : (wP B t).length = 64 := by simp [wP, wL_len]; omega
theorem wP_get (B : List Nat) {t i : Nat} (h : i < t) : (wP B t).getD i 0 = (wL B t).getD i 0 := by
  rw [wP, List.getD_eq_getElem?_getD, List.getElem?_append_left (by rw [wL_len]; exact h), List.getD_eq_getElem?_getD]
theorem wP_step (B : List Nat) {t : Nat} (h : t < 64) : (wP B t).set t (wNext B (wL B t) t) = wP B (t + 1) := by
  rw [wP, wP, wL, show 64 - t = (64 - (t + 1)) + 1 by omega, List.replicate_succ, List.set_append_right _ _ (by rw [wL_len]; omega), wL_len]
  simp
theorem byteAt {w : World} {a : Option Addr} {n c : Nat} {B : List Nat} (h : Rd w (.slice a n c) (bvs B)) {i : Nat} (hi : i < B.length) : ∃ b off, a = some ⟨b, off, none⟩ ∧ b < w.heap.size ∧ w.cell? ⟨b, off + i, none⟩ = some (.int .u8 ((B.getD i 0 : Nat) : Int)) :=
  h.at3 (bvs_getD hi)
set_option maxRecDepth 100000 in
theorem word4 (a b c d : Nat) (ha : a < 256) (hb : b < 256) (hc : c < 256) (hd : d < 256) :
    bits .or .u32 (bits .or .u32 (bits .or .u32 ((a : Int) * 16777216) ((b : Int) * 65536)) ((c : Int) * 256)) (d : Int) = ((((a * 256 + b) * 256 + c) * 256 + d : Nat) : Int) := by
  have h1 : a * 16777216 ||| b * 65536 = a * 16777216 + b * 65536 := by
    have h := Nat.shiftLeft_add_eq_or_of_lt (a := a) (b := b * 65536) (i := 24) (by omega)
    rw [Nat.shiftLeft_eq] at h; exact h.symm
  have h2 : (a * 16777216 + b * 65536) ||| c * 256 = a * 16777216 + b * 65536 + c * 256 := by
    have h := Nat.shiftLeft_add_eq_or_of_lt (a := a * 256 + b) (b := c * 256) (i := 16) (by omega)
    rw [Nat.shiftLeft_eq, show (a * 256 + b) * 2 ^ 16 = a * 16777216 + b * 65536 by rw [Nat.add_mul, Nat.mul_assoc]] at h; exact h.symm
  have h3 : (a * 16777216 + b * 65536 + c * 256) ||| d = a * 16777216 + b * 65536 + c * 256 + d := by
    have h := Nat.shiftLeft_add_eq_or_of_lt (a := (a * 256 + b) * 256 + c) (b := d) (i := 8) (by omega)
    rw [Nat.shiftLeft_eq, show ((a * 256 + b) * 256 + c) * 2 ^ 8 = a * 16777216 + b * 65536 + c * 256 by omega] at h; exact h.symm
  rw [show (a : Int) * 16777216 = ((a * 16777216 : Nat) : Int) from (Int.natCast_mul a 16777216).symm, show (b : Int) * 65536 = ((b * 65536 : Nat) : Int) from (Int.natCast_mul b 65536).symm, show (c : Int) * 256 = ((c * 256 : Nat) : Int) from (Int.natCast_mul c 256).symm,
    or32 _ _ (by omega) (by omega), h1, or32 _ _ (by omega) (by omega), h2, or32 _ _ (by omega) (by omega), h3]
  omega
end Go.Proofs.Ytlcmodbjbdfloaa
/- Walks: sha.constants, sha.beginnings. -/
namespace Go.Proofs.Ytlcmodbjbdfloaa
open Go.RowKit ShaM
set_option linter.unusedVariables false
def Z8a : Array Value := u32a (List.replicate 8 0)
theorem wpList_bld {P : Program} {w : World} {ops : Array Oper} {rest : List Oper} {o : Oper} {a : Act} {Q : Exit → Act → World → Prop} (hgd : o.guard = none) (t : TypeId) (ps : Array (Nat × Operand)) (ho : o.op = .build t ps)
    (cs : Array Value) (hf : P.built t (ps.map fun (i, x) => (i, a.eval x)).toList = some cs) (h : wpList P ops Q rest (a.put o.dst (.agg cs)) w) : wpList P ops Q (o :: rest) a w := by
  have k := wpList_build (P := P) (w := w) (ops := ops) (rest := rest) (a := a) (Q := Q) hgd t ps ho (by rw [hf]; rfl)
  rw [hf] at k
  exact k h
def HLa : Array Value := u32a HL0
def KLa : Array Value := u32a KL
end Go.Proofs.Ytlcmodbjbdfloaa
