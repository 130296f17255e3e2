/- The laws that the walks of HashTexts share. -/
import Derived.Test.YtngealmhgkoaiaaGreatZTreeBytes28
import Derived.Test.YtngealmhgkoaiaaGreatZTreeBytes29
import Derived.Test.YtngealmhgkoaiaaGreatZTreeBytes27
import Derived.Test.YtngealmhgkoaiaaGreatZTreeBytes07
import Derived.ArgAppend
namespace Go.Proofs.YtngealmhgkoaiaaGreat
open Go.RowKit WireM
set_option linter.unusedVariables false
theorem lt_eq {P : Program} {f : FuncId} {ar : Array Value} {R : List Nat × Nat} {W : World} (L : List Nat) (E : Nat) (hR : R = (L, E)) (h : Calls P f ar W (TextP R W)) :
    Calls P f ar W fun e w' => Below W.heap.size W w' ∧ ∃ v, e = .returned (.tuple #[v, .int .u8 (E : Nat)]) ∧ Own w' W.heap.size 5 v (bvs L) := by
  subst hR; exact h
theorem rright_eq {P : Program} {f : FuncId} {ar : Array Value} {b : Bool} {W : World} (b' : Bool) (hR : b = b') (h : Calls P f ar W fun e w' => e = .returned (.bool b) ∧ Below W.heap.size W w') :
    Calls P f ar W fun e w' => e = .returned (.bool b') ∧ Below W.heap.size W w' := by
  subst hR; exact h
theorem late_of {d : NodeD} (hr : rightB d = true) : d.kind = 2 → ∀ x ∈ d.par.late, 0 ≤ x ∧ x < 65536 := by
  intro h2
  rw [rightB, if_neg (by omega), if_neg (by omega), if_pos h2, Bool.and_eq_true, rpB, Bool.and_eq_true] at hr
  exact late_bd hr.2.1
theorem smalls_any (d : NodeD) (c : Array Value) (w W : World) (h : NodeC w d c) (hs : smallB d = true) :
    Calls Tryz.prog 68 #[.agg c] W fun e w' => e = .returned (.bool true) ∧ Below W.heap.size W w' := by
  obtain ⟨a1, c1, a2, c2, a3, c3, a4, c4, a5, c5, b1, e1, b2, e2, b3, e3, rfl, -⟩ := h
  have := small_any a1 a2 a3 a4 a5 b1 b2 b3 d.kind d.leaf.source d.leaf.box.length d.leaf.sign.length d.leaf.ident.length d.leaf.par.length d.leaf.sig.length d.par.box.length d.par.hash.length d.par.late.length c1 c2 c3 c4 c5 e1 e2 e3 W
  have e : smB d.leaf.box.length d.leaf.sign.length d.leaf.ident.length d.leaf.par.length d.leaf.sig.length d.par.box.length d.par.hash.length d.par.late.length = true := hs
  rw [e] at this
  exact this
theorem num_i (i : Int) (W : World) (h0 : 0 ≤ i) (h1 : i < 65536) :
    Calls Tryz.prog 98 #[.int .i64 4, .int .u64 i] W fun e w' => ∃ v, e = .returned v ∧ Own w' W.heap.size 5 v (bvs (beN 4 i.toNat)) ∧ Below W.heap.size W w' := by
  have := rnum_any 4 i.toNat W (by omega) (by omega)
  rw [Int.toNat_of_nonneg h0] at this
  exact this
theorem lateL_lt (L : List Int) : ∀ x ∈ lateL L, x < 256 := by
  intro x hx
  simp only [lateL, List.mem_flatten, List.mem_map] at hx
  obtain ⟨y, ⟨z, _, rfl⟩, hx⟩ := hx
  exact beN_lt _ _ x hx
theorem nodeB_lt {d : NodeD} (hk : NodeOk d) (hs : smallB d = true) : ∀ x ∈ nodeB d, x < 256 := by
  have hsm := of_decide_eq_true hs
  have hl := lateL_len d.par.late
  unfold nodeB
  split
  · intro x hx
    rw [List.mem_cons, List.mem_append] at hx
    rcases hx with rfl | hx | hx
    · omega
    · rw [unsB, List.mem_append, List.mem_append] at hx
      rcases hx with (hx | hx) | hx
      · refine catB_lt _ ?_ ?_ x hx
        · intro r hr; simp at hr; rcases hr with rfl | rfl | rfl <;> omega
        · intro r hr; simp at hr; rcases hr with rfl | rfl | rfl
          · exact hk.box
          · exact hk.sign
          · exact hk.ident
      · rw [List.mem_singleton] at hx; have := hk.source; omega
      · split at hx
        · exact vecB_lt (by omega) hk.par x hx
        · cases hx
    · exact vecB_lt (by omega) hk.sig x hx
  · split
    · intro x hx
      rw [List.mem_cons, parB, List.mem_append, List.mem_append] at hx
      rcases hx with rfl | (hx | hx) | hx
      · omega
      · exact vecB_lt (by omega) hk.pbox x hx
      · exact vecB_lt (by omega) hk.hash x hx
      · exact vecB_lt (by omega) (lateL_lt _) x hx
    · intro x hx; simp at hx; omega
theorem all4 {p : Nat → Prop} {a b c d : List Nat} (h1 : ∀ n ∈ a, p n) (h2 : ∀ n ∈ b, p n) (h3 : ∀ n ∈ c, p n) (h4 : ∀ n ∈ d, p n) : ∀ n ∈ a ++ b ++ c ++ d, p n := by
  intro n hn
  rw [List.mem_append, List.mem_append, List.mem_append] at hn
  rcases hn with ((h | h) | h) | h
  · exact h1 n h
  · exact h2 n h
  · exact h3 n h
  · exact h4 n h
theorem all3 {p : Nat → Prop} {a b c : List Nat} (h1 : ∀ n ∈ a, p n) (h2 : ∀ n ∈ b, p n) (h3 : ∀ n ∈ c, p n) : ∀ n ∈ a ++ b ++ c, p n := by
  intro n hn
  rw [List.mem_append, List.mem_append] at hn
  rcases hn with (h | h) | h
  · exact h1 n h
  · exact h2 n h
  · exact h3 n h
theorem World.grownBy_refl' (w : World) (row : Option Nat) : w.grownBy w row := ⟨rfl, rfl, rfl, Nat.le_refl _, fun _ _ _ => rfl⟩
theorem wp_app2 {P : Program} {w : World} {o : Oper} {a : Act} {K : Act → World → Prop} {Q : Exit → Act → World → Prop} (s x : Operand) (t : TypeId)
    (ho : o.op = .call { callee := .builtin .append, args := #[s, x], argTypes := #[t, t] })
    (B : Nat) (e : TypeId) (z : Value) (bytes : Nat) (F : Elem P t e z bytes)
    (v : Value) (xs : List Value) (hs : a.eval s = v) (hown : Own w B e v xs)
    (r : Value) (ys : List Value) (hx : a.eval x = r) (hr : Rd w r ys) (h1 : ∀ u ∈ ys, u.oneCell' = true)
    (hn : xs.length + ys.length < 1099511627776) (hB : B ≤ w.heap.size)
    (h : ∀ v' w', Own w' B e v' (xs ++ ys) → w.grownBy w' v.ownBlock → Below B w w' → K (a.put o.dst v') w') : o.wp P a w K Q := by
  obtain ⟨i, hi, hz, hsz, hby⟩ := info_parts F.inf
  have low := F.low
  have hmul : (xs.length + ys.length) * bytes ≤ (xs.length + ys.length) * 64 := Nat.mul_le_mul_left _ low
  have fin : ∀ (ad : Addr) cap, r = .slice (some ad) ys.length cap → (∀ (j : Nat) u, ys[j]? = some u → w.cell? (ad.add j) = some u) → o.wp P a w K Q := by
    intro ad cap hv hu
    subst hv
    refine wp_append_own w s x t ho B e i z 1 bytes F.ty hi hz hsz hby F.one (by omega) v xs.length xs hs hown ad ys.length cap ys hx (by omega) hu h1 (by unfold maxLen; omega) (by omega) hB ?_
    intro v' w' h2 h3 _
    have e1 : (xs ++ ys).length = xs.length + ys.length := by simp
    refine h v' w' (by unfold Own; rw [e1]; exact h2) h3 ?_
    refine (Below.refl B w).grown h3 hB ?_
    intro k hk
    exact (World.ownsRow.lt hown k hk).1
  obtain ⟨ad, cap, rfl, _, _, ⟨rfl, hcap⟩ | ⟨b, off, rfl, hc⟩⟩ := hr
  · cases ad with
    | none =>
      obtain rfl := hcap rfl
      have hrun := run_append_owned_none (P := P) (w := w) B t o.type e i 1 F.ty hi v xs.length xs hown
      unfold Oper.wp
      have hx' : a.eval x = .slice none 0 0 := hx
      simp [execOp, ho, resolve, invoke, builtin, hs, hx', hrun, Result.andThen]
      exact h v w (by simpa using hown) (World.grownBy_refl' w _) (Below.refl _ _)
    | some ad => exact fin ad cap rfl (by simp)
  · exact fin _ cap rfl (fun j u hu => by rw [Addr.add_lit]; exact hc j u hu)
theorem step_app2 {P : Program} {w : World} {ops : Array Oper} {o : Oper} {a : Act} {K : Act → World → Prop} {Q : Exit → Act → World → Prop} {E : Prop} (hw : Region.wanted o (yielded ops a.tmps) = true) (s x : Operand) (t : TypeId)
    (ho : o.op = .call { callee := .builtin .append, args := #[s, x], argTypes := #[t, t] })
    (B : Nat) (e : TypeId) (z : Value) (bytes : Nat) (F : Elem P t e z bytes)
    (v : Value) (xs : List Value) (hs : a.eval s = v) (hown : Own w B e v xs)
    (r : Value) (ys : List Value) (hx : a.eval x = r) (hr : Rd w r ys) (h1 : ∀ u ∈ ys, u.oneCell' = true)
    (hn : xs.length + ys.length < 1099511627776) (hB : B ≤ w.heap.size)
    (h : ∀ v' w', Own w' B e v' (xs ++ ys) → w.grownBy w' v.ownBlock → Below B w w' → K (a.put o.dst v') w') : if Region.wanted o (yielded ops a.tmps) = true then Oper.wp P o a w K Q else E := by
  rw [if_pos hw]
  exact wp_app2 s x t ho B e z bytes F v xs hs hown r ys hx hr h1 hn hB h
theorem own_lo {w w' : World} {B N : Nat} {e : TypeId} {v : Value} {xs : List Value} (h : Own w B e v xs) (hg : w.grownBy w' (some N)) (hN : N < B) : Own w' B e v xs := by
  refine World.ownsRow.kept h hg ?_
  cases hv : v.ownBlock with
  | none => exact .inl rfl
  | some k =>
    right
    intro hh
    have h1 := (World.ownsRow.lt h k hv).1
    have h2 : k = N := by simpa using hh
    omega
theorem own_hi {x w w' : World} {B N : Nat} {e : TypeId} {v : Value} {xs : List Value} (h0 : Own x B e v xs) (h : Own w B e v xs) (hg : w.grownBy w' (some N)) (hN : x.heap.size ≤ N) : Own w' B e v xs := by
  refine World.ownsRow.kept h hg ?_
  cases hv : v.ownBlock with
  | none => exact .inl rfl
  | some k =>
    right
    intro hh
    have h1 := (World.ownsRow.lt h0 k hv).2
    have h2 : k = N := by simpa using hh
    omega
/-- append onto a full slice that is not empty: all is laid anew -/
theorem wp_app_full {P : Program} {w : World} {o : Oper} {a : Act} {K : Act → World → Prop} {Q : Exit → Act → World → Prop} (s x : Operand) (t : TypeId)
    (ho : o.op = .call { callee := .builtin .append, args := #[s, x], argTypes := #[t, t] })
    (e : TypeId) (z : Value) (bytes : Nat) (F : Elem P t e z bytes) (ad : Addr) (n : Nat)
    (xs : List Value) (hs : a.eval s = .slice (some ad) n n) (hrs : Rd w (.slice (some ad) n n) xs) (hx0 : 0 < xs.length)
    (r : Value) (ys : List Value) (hx : a.eval x = r) (hr : Rd w r ys) (hy0 : 0 < ys.length)
    (hn : xs.length + ys.length < 1099511627776)
    (h : ∀ v' w', Own w' w.heap.size e v' (xs ++ ys) → Below w.heap.size w w' → K (a.put o.dst v') w') : o.wp P a w K Q := by
  obtain ⟨i, hi, hz, hsz, hby⟩ := info_parts F.inf
  have low := F.low
  have hmul : (xs.length + ys.length) * bytes ≤ (xs.length + ys.length) * 64 := Nat.mul_le_mul_left _ low
  obtain ⟨a1, c1, e1, _, _, ⟨rfl, _⟩ | ⟨b1, o1, rfl, hc1⟩⟩ := hrs
  · simp at hx0
  obtain ⟨a2, c2, rfl, _, _, ⟨rfl, _⟩ | ⟨b2, o2, rfl, hc2⟩⟩ := hr
  · simp at hy0
  simp only [Value.slice.injEq, Option.some.injEq] at e1
  obtain ⟨rfl, rfl, -⟩ := e1
  obtain ⟨v', w', hrun, r1, r2⟩ := run_append_arg_grows (P := P) w t o.type e i z 1 bytes F.ty hi hz hsz hby F.one (by omega) ⟨b1, o1, none⟩ xs.length xs.length xs (by omega) (fun j u hj => by rw [Addr.add_lit]; exact hc1 j u hj) ⟨b2, o2, none⟩ ys.length c2 ys (by omega) (fun j u hj => by rw [Addr.add_lit]; exact hc2 j u hj) (by omega) (by unfold maxLen; omega) (by omega)
  have e3 : (xs ++ ys).length = xs.length + ys.length := by simp
  unfold Oper.wp
  simp [execOp, ho, resolve, invoke, builtin, hs, hx, hrun, Result.andThen]
  refine h v' w' (by unfold Own; rw [e3]; exact r1) ((Below.refl _ _).grown r2 (Nat.le_refl _) ?_)
  intro k hk
  cases hk
theorem ev {a : Act} {s : Nat} {v : Value} (h : a.tmps[s]?.getD undef = v) : a.eval (.tmp s) = v := by
  first
  | exact h
  | simpa [Act.eval, Array.getD_eq_getD_getElem?] using h
end Go.Proofs.YtngealmhgkoaiaaGreat
