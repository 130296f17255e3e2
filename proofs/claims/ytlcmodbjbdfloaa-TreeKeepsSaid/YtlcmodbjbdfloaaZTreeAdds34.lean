/- Walks: hash.All, hash.Tree. -/
import Derived.Test.YtlcmodbjbdfloaaZTreeAdds33
import Derived.Laws.MakeOwn
namespace Go.Proofs.Ytlcmodbjbdfloaa
open Go.RowKit WalkM ShaM WireM
set_option linter.unusedVariables false
/-- a node's hash -/
def hashX (T : Nat → NodeD) (y : Nat) : List Nat := hashN T (lev y) y
theorem hashX_len (T : Nat → NodeD) (y : Nat) : (hashX T y).length = 32 := hashN_len _ _ _
theorem hashX_lt (T : Nat → NodeD) (y : Nat) : ∀ x ∈ hashX T y, x < 256 := hashN_lt _ _ _
theorem AllR.congr {w : World} {g n : Nat} {F F' : Nat → Option (List Nat)} (h : AllR w g n F) (e : ∀ y, y < n → F' y = F y) : AllR w g n F' := by
  obtain ⟨cs, h1, h2, h3⟩ := h
  refine ⟨cs, h1, h2, fun y hy => ?_⟩
  obtain ⟨u, k1, k2⟩ := h3 y hy
  exact ⟨u, k1, fun L hL => k2 L (by rw [← e y hy]; exact hL)⟩
theorem make_rows {n : Nat} (hn : n ≤ 4000000) : ∀ w : World, (Instr.makeSlice 100 (.int .i64 (n : Nat)) (.int .i64 (n : Nat))).run Try.prog w = .ok (.slice (some ⟨w.heap.size, 0, none⟩) n n) (w.alloc (.cells (madeCells (Value.slice none 0 0).cells (n * 1)) 23)) := by
  intro w
  obtain ⟨i, hi, hz, hsz, hby⟩ : ∃ i, Try.prog.info? 23 = some i ∧ i.zero = some (.slice none 0 0) ∧ i.size = 1 ∧ i.bytes = 24 := info_parts (by kernel_rfl)
  have hr := run_make (P := Try.prog) w 100 23 i (.slice none 0 0) Try.underlying100 hi hz .i64 .i64 n n (by omega) (by omega) (by rw [hby]; omega) (by omega)
  simp only [Int.toNat_natCast, hsz] at hr
  exact hr
theorem made_rows (w : World) (n : Nat) : AllR (w.alloc (.cells (madeCells (Value.slice none 0 0).cells (n * 1)) 23)) w.heap.size n (fun _ => none) := by
  refine ⟨_, Blk.new w _ _, by simp [madeCells], fun y hy => ?_⟩
  exact ⟨_, Array.getElem?_eq_getElem (by simpa [madeCells] using hy), fun L hL => by cases hL⟩
end Go.Proofs.Ytlcmodbjbdfloaa
