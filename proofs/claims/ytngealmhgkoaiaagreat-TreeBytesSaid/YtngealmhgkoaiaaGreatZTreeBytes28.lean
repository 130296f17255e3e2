/- Walks: the law's alive, HashTexts. -/
import Derived.Test.YtngealmhgkoaiaaGreatZTreeBytes12
import Derived.Test.YtngealmhgkoaiaaGreatZTreeBytes27
namespace Go.Proofs.YtngealmhgkoaiaaGreat
open Go.RowKit WireM
set_option linter.unusedVariables false
theorem step_app' {P : Program} {w : World} {ops : Array Oper} {o : Oper} {a : Act} {K : Act → World → Prop} {Q : Exit → Act → World → Prop} {E : Prop} (hw : Region.wanted o (yielded ops a.tmps) = true) (s x : Operand) (t : TypeId)
    (ho : o.op = .call { callee := .builtin .append, args := #[s, x], argTypes := #[t, t] })
    (B : Nat) (e : TypeId) (z : Value) (bytes : Nat) (F : Elem P t e z bytes)
    (v : Value) (xs : List Value) (hs : a.eval s = v) (hown : Own w B e v xs)
    (r : Value) (ys : List Value) (hx : a.eval x = r) (hr : Rd w r ys) (h1 : ∀ u ∈ ys, u.oneCell' = true)
    (hn : xs.length + ys.length < 1099511627776) (hB : B ≤ w.heap.size)
    (h : ∀ v' w', Own w' B e v' (xs ++ ys) → Below B w w' → K (a.put o.dst v') w') : if Region.wanted o (yielded ops a.tmps) = true then Oper.wp P o a w K Q else E := by
  rw [if_pos hw]
  exact wp_app s x t ho B e z bytes F v xs hs hown r ys hx hr h1 hn hB h
theorem lt18 (w : World) : Calls Tryz.prog 81 #[.int .i64 2, .agg #[.int .u8 0, .slice none 0 0, .slice none 0 0, .slice none 0 0, .int .u8 0, .slice none 0 0, .slice none 0 0, .slice none 0 0, .slice none 0 0, .slice none 0 0]] w fun e w' => Below w.heap.size w w' ∧ ∃ v, e = .returned (.tuple #[v, .int .u8 0]) ∧ Own w' w.heap.size 5 v (bvs [1, 0, 0, 0, 2, 0]) := by
  have P := leafText_any 2 noNodeD _ w (noNode_c w) noNode_ok (by decide)
  have e0 : ltF 2 noNodeD = ([1, 0, 0, 0, 2, 0], 0) := by
    have h1 : rightB noNodeD = true := by decide
    have h2 : nodeB noNodeD = [0] := by decide
    have h3 : noNodeD.kind = 0 := rfl
    have h4 : beN 4 (2:Int).toNat = [0,0,0,2] := by decide
    unfold ltF
    rw [if_neg (by omega), h1, h2, h3, h4, if_neg (by simp)]
    rfl
  unfold TextP at P
  rw [e0] at P
  exact P
set_option maxRecDepth 100000 in
set_option maxHeartbeats 2000000 in
theorem alive18 (w : World) : Calls Tryz.prog 23 #[] w fun e w' => e = .returned (.bool true) ∧ Below w.heap.size w w' := by
  have HP := Lib.hid (fun w => lt18 w)
  go_enter Tryz.func23, Tryz.ntmps23
  go_wp2_with fail
  refine (HP.out _).mono ?_
  rintro e w1 ⟨hb1, v1, rfl, hown⟩
  have HB1 := Lib.hid hb1
  have HS := Lib.hid (same_dec v1 _ [1, 0, 0, 0, 2, 0] [1, 0, 0, 0, 2, 0] _ ((hown.alloc _).rd) (lit_rd (w := w1) (cs := #[.int .u8 1, .int .u8 0, .int .u8 0, .int .u8 0, .int .u8 2, .int .u8 0]) (L := [1, 0, 0, 0, 2, 0]) rfl rfl (by simp)) (by decide) (by decide) true (by decide))
  clear hown hb1
  go_wp2_with fail
  refine HS.out.mono ?_
  rintro e w' ⟨rfl, n, rfl⟩
  go_wp2_with fail
  go_ret
  exact ⟨rfl, below_drewN' (HB1.out.alloc HB1.out.size _) _⟩
end Go.Proofs.YtngealmhgkoaiaaGreat
