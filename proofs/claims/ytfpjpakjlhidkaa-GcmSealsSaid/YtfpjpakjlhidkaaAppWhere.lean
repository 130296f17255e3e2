/- Append on a slice that the call owns: what comes out lies where the slice lay, or in new memory. -/
import Derived.Test.YtfpjpakjlhidkaaMem
import Derived.Deep.RegionLaw
namespace Go.Proofs.Ytfpjpakjlhidkaa
open Go.RowKit
set_option linter.unusedVariables false
/-- what comes out of an append lies where it lay or in a new block -/
def Near (w : World) (v v' : Value) : Prop := v'.ownBlock = v.ownBlock ∨ ∃ g, v'.ownBlock = some g ∧ w.heap.size ≤ g
theorem wp_app3 {P : Program} {w : World} {o : Oper} {a : Act} {K : Act → World → Prop} {Q : Exit → Act → World → Prop} (s x : Operand) (t : TypeId)
    (ho : o.op = .call { callee := .builtin .append, args := #[s, x], argTypes := #[t, t] })
    (B : Nat) (e : TypeId) (z : Value) (bytes : Nat) (F : Elem P t e z bytes)
    (v : Value) (xs : List Value) (hs : a.eval s = v) (hown : Own w B e v xs)
    (r : Value) (ys : List Value) (hx : a.eval x = r) (hr : Rd w r ys) (h1 : ∀ u ∈ ys, u.oneCell' = true)
    (hn : xs.length + ys.length < 1099511627776) (hB : B ≤ w.heap.size)
    (h : ∀ v' w', Own w' B e v' (xs ++ ys) → w.grownBy w' v.ownBlock → Below B w w' → Near w v v' → K (a.put o.dst v') w') : o.wp P a w K Q := by
  obtain ⟨i, hi, hz, hsz, hby⟩ := info_parts F.inf
  have low := F.low
  have hmul : (xs.length + ys.length) * bytes ≤ (xs.length + ys.length) * 64 := Nat.mul_le_mul_left _ low
  have hmul2 : ys.length * bytes ≤ ys.length * 64 := Nat.mul_le_mul_left _ low
  have fin : ∀ (ad : Addr) cap, r = .slice (some ad) ys.length cap → (∀ (j : Nat) u, ys[j]? = some u → w.cell? (ad.add j) = some u) → o.wp P a w K Q := by
    intro ad cap hv hu
    subst hv
    obtain ⟨v', w', hr, h2, h3, h4⟩ := run_append_own (P := P) w B t o.type e i z 1 bytes F.ty hi hz hsz hby F.one (by omega) v xs.length xs hown ad ys.length cap ys (by omega) hu h1 (by unfold maxLen; omega) (by omega) hB
    have hwh : Near w v v' := by
      have hown' := hown
      obtain ⟨hl, hc⟩ := hown'
      rcases hc with ⟨rfl, h0⟩ | ⟨g, cp, cur, rfl, hbg, hg, hnc, hcm, hcs, htake⟩
      · by_cases hm : ys.length = 0
        · rw [h4.2 ⟨rfl, hm⟩]; exact .inl rfl
        · have := run_append_nil (P := P) w t o.type e i z F.ty hi hz ad ys.length cap ys (by rw [hsz]; omega) hu (by omega) (by omega) (by rw [hby]; omega)
          rw [this] at hr
          cases hr
          exact .inr ⟨w.heap.size, rfl, Nat.le_refl _⟩
      · by_cases hroom : xs.length + ys.length ≤ cp
        · have := run_append_room (P := P) w t o.type e i F.ty hi g xs.length cp cur hg ad ys.length cap ys (by rw [hsz]; omega) hu h1 hroom (by rw [hsz, hcs]; omega)
          rw [this] at hr
          cases hr
          exact .inl rfl
        · have holds : ∀ j u, xs[j]? = some u → w.cell? ((⟨g, 0, none⟩ : Addr).add j) = some u := World.ownsRow.cells (g := g) hown rfl
          have := run_append_grow (P := P) w t o.type e i z F.ty hi hz ⟨g, 0, none⟩ xs.length cp xs (by rw [hsz]; omega) holds ad ys.length cap ys (by rw [hsz]; omega) hu (by omega) (by omega) (growslice_fits (by omega) (by rw [hby]; omega))
          rw [this] at hr
          cases hr
          exact .inr ⟨w.heap.size, rfl, Nat.le_refl _⟩
    have e1 : (xs ++ ys).length = xs.length + ys.length := by simp
    have hfin := h v' w' (by unfold Own; rw [e1]; exact h2) h3 ((Below.refl B w).grown h3 hB (fun k hk => (World.ownsRow.lt hown k hk).1)) hwh
    unfold Oper.wp execOp
    simp only [ho, resolve, invoke, builtin, Sem.run_bind, Sem.run_pure, Result.andThen_ok, List.map_toArray, List.map_cons, List.map_nil, hs, hx, hr]
    exact hfin
  obtain ⟨ad, cap, rfl, _, _, ⟨rfl, hcap⟩ | ⟨b, off, rfl, hc⟩⟩ := hr
  · cases ad with
    | none =>
      obtain rfl := hcap rfl
      have hrun := run_append_owned_none (P := P) (w := w) B t o.type e i 1 F.ty hi v xs.length xs hown
      unfold Oper.wp
      have hx' : a.eval x = .slice none 0 0 := hx
      simp [execOp, ho, resolve, invoke, builtin, hs, hx', hrun, Result.andThen]
      exact h v w (by simpa using hown) ⟨rfl, rfl, rfl, Nat.le_refl _, fun _ _ _ => rfl⟩ (Below.refl _ _) (.inl rfl)
    | some ad => exact fin ad cap rfl (by simp)
  · exact fin _ cap rfl (fun j u hu => by rw [Addr.add_lit]; exact hc j u hu)
end Go.Proofs.Ytfpjpakjlhidkaa
