/- Append on a slice that the call owns, as one step of a region that draws its order. -/
import Derived.Test.YtngealmhgkoaiaaGreatZTreeBytes02
import Derived.Deep.RegionLaw
namespace Go.Proofs.YtngealmhgkoaiaaGreat
open Go.RowKit
theorem wp_app {P : Program} {w : World} {o : Oper} {a : Act} {K : Act → World → Prop} {Q : Exit → Act → World → Prop} (s x : Operand) (t : TypeId)
    (ho : o.op = .call { callee := .builtin .append, args := #[s, x], argTypes := #[t, t] })
    (B : Nat) (e : TypeId) (z : Value) (bytes : Nat) (F : Elem P t e z bytes)
    (v : Value) (xs : List Value) (hs : a.eval s = v) (hown : Own w B e v xs)
    (r : Value) (ys : List Value) (hx : a.eval x = r) (hr : Rd w r ys) (h1 : ∀ u ∈ ys, u.oneCell' = true)
    (hn : xs.length + ys.length < 1099511627776) (hB : B ≤ w.heap.size)
    (h : ∀ v' w', Own w' B e v' (xs ++ ys) → Below B w w' → K (a.put o.dst v') w') : o.wp P a w K Q := by
  obtain ⟨i, hi, hz, hsz, hby⟩ := info_parts F.inf
  have low := F.low
  have hmul : (xs.length + ys.length) * bytes ≤ (xs.length + ys.length) * 64 := Nat.mul_le_mul_left _ low
  have fin : ∀ (ad : Addr) cap, r = .slice (some ad) ys.length cap → (∀ (j : Nat) u, ys[j]? = some u → w.cell? (ad.add j) = some u) → o.wp P a w K Q := by
    intro ad cap hv hu
    subst hv
    refine wp_append_own w s x t ho B e i z 1 bytes F.ty hi hz hsz hby F.one (by omega) v xs.length xs hs hown ad ys.length cap ys hx (by omega) hu h1 (by unfold maxLen; omega) (by omega) hB ?_
    intro v' w' h2 h3 _
    have e1 : (xs ++ ys).length = xs.length + ys.length := by simp
    refine h v' w' (by unfold Own; rw [e1]; exact h2) ?_
    refine (Below.refl B w).grown h3 hB ?_
    intro k hk
    exact (World.ownsRow.lt hown k hk).1
  obtain ⟨ad, cap, rfl, _, _, ⟨rfl, hcap⟩ | ⟨b, off, rfl, hc⟩⟩ := hr
  · cases ad with
    | none =>
      obtain rfl := hcap rfl
      have hrun := run_append_owned_none (P := P) (w := w) B t o.type e i 1 F.ty hi v xs.length xs hown
      unfold Oper.wp
      have hx' : a.eval x = .slice none 0 0 := hx
      simp [execOp, ho, resolve, invoke, builtin, hs, hx', hrun, Result.andThen]
      exact h v w (by simpa using hown) (Below.refl _ _)
    | some ad => exact fin ad cap rfl (by simp)
  · exact fin _ cap rfl (fun j u hu => by rw [Addr.add_lit]; exact hc j u hu)
theorem step_app {P : Program} {w : World} {ops : Array Oper} {o : Oper} {a : Act} {K : Act → World → Prop} {Q : Exit → Act → World → Prop} {E : Prop} (hgd : o.guard = none) (s x : Operand) (t : TypeId)
    (ho : o.op = .call { callee := .builtin .append, args := #[s, x], argTypes := #[t, t] })
    (B : Nat) (e : TypeId) (z : Value) (bytes : Nat) (F : Elem P t e z bytes)
    (v : Value) (xs : List Value) (hs : a.eval s = v) (hown : Own w B e v xs)
    (r : Value) (ys : List Value) (hx : a.eval x = r) (hr : Rd w r ys) (h1 : ∀ u ∈ ys, u.oneCell' = true)
    (hn : xs.length + ys.length < 1099511627776) (hB : B ≤ w.heap.size)
    (h : ∀ v' w', Own w' B e v' (xs ++ ys) → Below B w w' → K (a.put o.dst v') w') : if Region.wanted o (yielded ops a.tmps) = true then Oper.wp P o a w K Q else E := by
  have hw : Region.wanted o (yielded ops a.tmps) = true := by simp [Region.wanted, hgd]
  rw [if_pos hw]
  exact wp_app s x t ho B e z bytes F v xs hs hown r ys hx hr h1 hn hB h
end Go.Proofs.YtngealmhgkoaiaaGreat
