/- Walks: the law HashTrees. -/
import Derived.Test.YtohldijomcljkaaGreatZHashSeen34
import Derived.Test.YtohldijomcljkaaGreatZHashSeen40
import Derived.Test.YtohldijomcljkaaGreatZHashSeen28
import Derived.Test.YtohldijomcljkaaGreatZHashSeen41
namespace Go.Proofs.YtohldijomcljkaaGreat
open Go.RowKit WalkM ShaM WireM
set_option linter.unusedVariables false
theorem woD_fun (t : List NodeD) : woD t [] = nd t := funext fun x => woD_nil t x
/-- the reference's hash of any node -/
theorem rhashX_any (t : List NodeD) (hs : smallT t = true) (hok : TreeOk t) (hr : rightT t = true) (x : Nat) (hx : x < t.length) (v vp : Value) (ps : List Int) (w : World) (h : TreeR w v t) (hp : Rd w vp (ivs .i64 ps)) :
    Calls Tryz.prog 34 #[v, .int .i64 (x : Nat), vp] w fun e w' => ∃ v', e = .returned v' ∧ Own w' w.heap.size 5 v' (bvs (hashX (woD t ps) x)) ∧ Below w.heap.size w w' := by
  obtain ⟨hln, hpl⟩ : leavesN t.length ≠ 0 ∧ placedB t = true := by
    rw [rightT, Bool.and_eq_true, Bool.and_eq_true] at hr
    exact ⟨of_decide_eq_true hr.1, hr.2.1⟩
  obtain ⟨d, hd, hN, hl⟩ := leavesN_pos hln
  have hlen := smallT_len hs
  have e : 2 ^ (d + 1) = 2 * 2 ^ d := by rw [Nat.pow_succ]; omega
  exact (rboth_any t ps hs hok hpl (lev x)).2 x v vp w h hp (lev_is (by omega)) (by have := under_in (x := x) (d := d) (by omega) hd; omega)
end Go.Proofs.YtohldijomcljkaaGreat
