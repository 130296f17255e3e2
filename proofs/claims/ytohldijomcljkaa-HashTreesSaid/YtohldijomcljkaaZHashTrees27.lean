/- Walks: wire.number, a reader's Take, NewReader, Err, End, Left. -/
import Derived.Test.YtohldijomcljkaaZHashTrees26
import Derived.Test.YtohldijomcljkaaZHashTrees01
import Derived.Test.YtohldijomcljkaaZHashTrees12
import Derived.Deep.RegionWith
import Derived.RegionTactic
import Derived.Test.YtohldijomcljkaaZHashTrees19
import Derived.ArgAppend
import Derived.Test.YtohldijomcljkaaZHashTrees25
import Derived.Test.YtohldijomcljkaaZHashTrees20
namespace Go.Proofs.Ytohldijomcljkaa
open Go.RowKit WireM
set_option linter.unusedVariables false
/-- the number of bytes, the highest first -/
def numV (L : List Nat) : Nat := L.foldl (fun a c => a * 256 + c) 0
theorem numV_snoc (L : List Nat) (c : Nat) : numV (L ++ [c]) = numV L * 256 + c := by simp [numV]
theorem numV_lt : ∀ (k : Nat) (L : List Nat), L.length = k → (∀ n ∈ L, n < 256) → numV L < 256 ^ k := by
  intro k
  induction k with
  | zero => intro L h _; rw [List.eq_nil_of_length_eq_zero h]; decide
  | succ k ih =>
    intro L h hL
    have hne : L ≠ [] := by intro e; subst e; simp at h
    rw [← List.dropLast_concat_getLast hne, numV_snoc]
    have h1 := ih L.dropLast (by simp [h]) (fun n hn => hL n (List.dropLast_subset _ hn))
    have h2 := hL _ (List.getLast_mem hne)
    rw [Nat.pow_succ]
    omega
theorem or256 (a c : Nat) (hc : c < 256) : a * 256 ||| c = a * 256 + c := by
  have := Nat.two_pow_add_eq_or_of_lt (i := 8) (b := c) hc a
  rw [Nat.mul_comm] at this
  exact this.symm
theorem take_snocD {L : List Nat} {r : Nat} (h : r < L.length) : L.take (r + 1) = L.take r ++ [L.getD r 0] := by
  rw [List.take_succ_eq_append_getElem h, List.getD_eq_getElem?_getD, List.getElem?_eq_getElem h]; rfl
theorem pow256 {r : Nat} (h : r ≤ 7) : 256 ^ r ≤ 72057594037927936 := by
  have := Nat.pow_le_pow_right (show 0 < 256 by omega) h
  exact this
/-- the error at the end -/
def endE (L : List Nat) (er : Nat) : Nat := if er ≠ 0 then er else if L = [] then 0 else 5
end Go.Proofs.Ytohldijomcljkaa
/- Walks: a reader's length. -/
namespace Go.Proofs.Ytohldijomcljkaa
open Go.RowKit WireM
set_option linter.unusedVariables false
/-- a length that begins with b: it, what is left, the error -/
def lenF (b : Nat) (M : List Nat) : Option Nat × List Nat × Nat :=
  if b / 64 = 3 then (none, M, 3)
  else if M.length < 2 ^ (b / 64) - 1 then (none, M, 4)
  else if lenS (numV (b % 64 :: M.take (2 ^ (b / 64) - 1)) : Nat) = 2 ^ (b / 64) then (some (numV (b % 64 :: M.take (2 ^ (b / 64) - 1))), M.drop (2 ^ (b / 64) - 1), 0)
  else (none, M.drop (2 ^ (b / 64) - 1), 3)
end Go.Proofs.Ytohldijomcljkaa
/- Walks: a reader's length at any state, Take, Vec. -/
namespace Go.Proofs.Ytohldijomcljkaa
open Go.RowKit WireM
set_option linter.unusedVariables false
def lengthF (L : List Nat) (er : Nat) : Option Nat × List Nat × Nat :=
  if er ≠ 0 then (none, L, er) else match L with
    | [] => (none, [], 4)
    | b :: M => lenF b M
def takeF (L : List Nat) (er : Nat) (n : Int) : List Nat × List Nat × Nat :=
  if er ≠ 0 then ([], L, er) else if n < 0 then ([], L, 1) else if (L.length : Int) < n then ([], L, 4) else (L.take n.toNat, L.drop n.toNat, 0)
theorem nil_rdk (w : World) (B : Nat) : RdK w B (.slice none 0 0) (bvs []) := ⟨none, 0, rfl, Nat.le_refl _, Nat.zero_le _, .inl ⟨rfl, fun _ => rfl⟩⟩
theorem takeF_len (L : List Nat) (er : Nat) (n : Int) : (takeF L er n).1.length ≤ L.length := by
  unfold takeF
  split
  · simp
  · split
    · simp
    · split
      · simp
      · simp; omega
def vecF (L : List Nat) (er : Nat) : List Nat × List Nat × Nat :=
  match lengthF L er with
  | (none, M, e) => ([], M, e)
  | (some n, M, e) => takeF M e (n : Int)
theorem lenF_len (b : Nat) (M : List Nat) : (lenF b M).2.1.length ≤ M.length := by
  unfold lenF
  split
  · exact Nat.le_refl _
  · split
    · exact Nat.le_refl _
    · split <;> simp
theorem lengthF_len (L : List Nat) (er : Nat) : (lengthF L er).2.1.length ≤ L.length := by
  unfold lengthF
  split
  · exact Nat.le_refl _
  · split
    · exact Nat.le_refl _
    · rename_i b M
      have := lenF_len b M
      simp; omega
end Go.Proofs.Ytohldijomcljkaa
/- Walks: the law's alive, WireLens. -/
namespace Go.Proofs.Ytohldijomcljkaa
open Go.RowKit WireM
set_option linter.unusedVariables false
end Go.Proofs.Ytohldijomcljkaa
/- Walks: the reference's Put, the law's put. -/
namespace Go.Proofs.Ytohldijomcljkaa
open Go.RowKit WireM
set_option linter.unusedVariables false
structure ItemD where
  kind : Int
  size : Int
  n : Nat
  v : List Nat
  l : List (List Nat)
/-- what an item may be, as it is looked at -/
structure ItemOk (d : ItemD) : Prop where
  n : d.n < 18446744073709551616
  v : ∀ x ∈ d.v, x < 256
  l : ∀ r ∈ d.l, ∀ x ∈ r, x < 256
  kind : -9223372036854775808 ≤ d.kind ∧ d.kind ≤ 9223372036854775807
  size : -9223372036854775808 ≤ d.size ∧ d.size ≤ 9223372036854775807
/-- what isn't far -/
structure Near (d : ItemD) : Prop where
  k0 : 0 ≤ d.kind
  k4 : d.kind ≤ 4
  v : d.v.length ≤ 300
  l : d.l.length ≤ 20
  r : ∀ r ∈ d.l, r.length ≤ 200
/-- the five cells of an item -/
def ItemC (w : World) (d : ItemD) (c : Array Value) : Prop := ∃ cv cl, c = #[.int .i64 d.kind, .int .i64 d.size, .int .u64 (d.n : Nat), cv, cl] ∧ Rd w cv (bvs d.v) ∧ RdL w cl d.l
theorem ItemC.below {w w' : World} {B : Nat} {d : ItemD} {c : Array Value} (h : ItemC w d c) (hb : Below B w w') (hB : w.heap.size ≤ B) : ItemC w' d c := by
  obtain ⟨cv, cl, h1, h2, h3⟩ := h
  exact ⟨cv, cl, h1, h2.below hb hB, h3.below hb hB⟩
/-- an item's bytes -/
def putB (d : ItemD) : List Nat :=
  if d.kind = 0 then beN d.size.toNat d.n else if d.kind = 1 then vecB d.v else if d.kind = 2 then listB d.l else if d.kind = 3 then [if 0 < d.n then 1 else 0] else d.v
theorem putB_len {d : ItemD} (hn : Near d) (hs : d.kind = 0 → d.size.toNat ≤ 8) : (putB d).length ≤ 5000 := by
  have h2 := vecB_len d.v (by have := hn.v; omega)
  have h3 := catB_len d.l hn.r
  have h4 := vecB_len (catB d.l) (by have := hn.l; omega)
  have h5 := hn.v
  have h6 := hn.l
  unfold putB listB
  split
  · rename_i h
    rw [beN_len]
    have := hs h; omega
  · split
    · omega
    · split
      · omega
      · split
        · simp
        · omega
theorem catB_lt : ∀ (l : List (List Nat)), (∀ r ∈ l, r.length ≤ 200) → (∀ r ∈ l, ∀ x ∈ r, x < 256) → ∀ x ∈ catB l, x < 256 := by
  intro l h1 h2 x hx
  simp only [catB, List.mem_flatten, List.mem_map] at hx
  obtain ⟨y, ⟨r, hr, rfl⟩, hx⟩ := hx
  exact vecB_lt (by have := h1 r hr; omega) (h2 r hr) x hx
theorem putB_lt {d : ItemD} (hn : Near d) (hk : ItemOk d) : ∀ x ∈ putB d, x < 256 := by
  intro x hx
  have h3 := catB_len d.l hn.r
  have h6 := hn.l
  unfold putB listB at hx
  split at hx
  · exact beN_lt _ _ x hx
  · split at hx
    · exact vecB_lt (by have := hn.v; omega) hk.v x hx
    · split at hx
      · exact vecB_lt (by omega) (catB_lt _ hn.r hk.l) x hx
      · split at hx
        · simp only [List.mem_singleton] at hx
          subst hx
          split <;> omega
        · exact hk.v x hx
end Go.Proofs.Ytohldijomcljkaa
/- The laws that the walks of HashTexts share. -/
namespace Go.Proofs.Ytohldijomcljkaa
open Go.RowKit WireM
set_option linter.unusedVariables false
theorem lt_eq {P : Program} {f : FuncId} {ar : Array Value} {R : List Nat × Nat} {W : World} (L : List Nat) (E : Nat) (hR : R = (L, E)) (h : Calls P f ar W (TextP R W)) :
    Calls P f ar W fun e w' => Below W.heap.size W w' ∧ ∃ v, e = .returned (.tuple #[v, .int .u8 (E : Nat)]) ∧ Own w' W.heap.size 5 v (bvs L) := by
  subst hR; exact h
theorem rright_eq {P : Program} {f : FuncId} {ar : Array Value} {b : Bool} {W : World} (b' : Bool) (hR : b = b') (h : Calls P f ar W fun e w' => e = .returned (.bool b) ∧ Below W.heap.size W w') :
    Calls P f ar W fun e w' => e = .returned (.bool b') ∧ Below W.heap.size W w' := by
  subst hR; exact h
theorem late_of {d : NodeD} (hr : rightB d = true) : d.kind = 2 → ∀ x ∈ d.par.late, 0 ≤ x ∧ x < 65536 := by
  intro h2
  rw [rightB, if_neg (by omega), if_neg (by omega), if_pos h2, Bool.and_eq_true, rpB, Bool.and_eq_true] at hr
  exact late_bd hr.2.1
theorem smalls_any (d : NodeD) (c : Array Value) (w W : World) (h : NodeC w d c) (hs : smallB d = true) :
    Calls Try.prog 54 #[.agg c] W fun e w' => e = .returned (.bool true) ∧ Below W.heap.size W w' := by
  obtain ⟨a1, c1, a2, c2, a3, c3, a4, c4, a5, c5, b1, e1, b2, e2, b3, e3, rfl, -⟩ := h
  have := small_any a1 a2 a3 a4 a5 b1 b2 b3 d.kind d.leaf.source d.leaf.box.length d.leaf.sign.length d.leaf.ident.length d.leaf.par.length d.leaf.sig.length d.par.box.length d.par.hash.length d.par.late.length c1 c2 c3 c4 c5 e1 e2 e3 W
  have e : smB d.leaf.box.length d.leaf.sign.length d.leaf.ident.length d.leaf.par.length d.leaf.sig.length d.par.box.length d.par.hash.length d.par.late.length = true := hs
  rw [e] at this
  exact this
theorem num_i (i : Int) (W : World) (h0 : 0 ≤ i) (h1 : i < 65536) :
    Calls Try.prog 95 #[.int .i64 4, .int .u64 i] W fun e w' => ∃ v, e = .returned v ∧ Own w' W.heap.size 5 v (bvs (beN 4 i.toNat)) ∧ Below W.heap.size W w' := by
  have := rnum_any 4 i.toNat W (by omega) (by omega)
  rw [Int.toNat_of_nonneg h0] at this
  exact this
theorem lateL_lt (L : List Int) : ∀ x ∈ lateL L, x < 256 := by
  intro x hx
  simp only [lateL, List.mem_flatten, List.mem_map] at hx
  obtain ⟨y, ⟨z, _, rfl⟩, hx⟩ := hx
  exact beN_lt _ _ x hx
theorem nodeB_lt {d : NodeD} (hk : NodeOk d) (hs : smallB d = true) : ∀ x ∈ nodeB d, x < 256 := by
  have hsm := of_decide_eq_true hs
  have hl := lateL_len d.par.late
  unfold nodeB
  split
  · intro x hx
    rw [List.mem_cons, List.mem_append] at hx
    rcases hx with rfl | hx | hx
    · omega
    · rw [unsB, List.mem_append, List.mem_append] at hx
      rcases hx with (hx | hx) | hx
      · refine catB_lt _ ?_ ?_ x hx
        · intro r hr; simp at hr; rcases hr with rfl | rfl | rfl <;> omega
        · intro r hr; simp at hr; rcases hr with rfl | rfl | rfl
          · exact hk.box
          · exact hk.sign
          · exact hk.ident
      · rw [List.mem_singleton] at hx; have := hk.source; omega
      · split at hx
        · exact vecB_lt (by omega) hk.par x hx
        · cases hx
    · exact vecB_lt (by omega) hk.sig x hx
  · split
    · intro x hx
      rw [List.mem_cons, parB, List.mem_append, List.mem_append] at hx
      rcases hx with rfl | (hx | hx) | hx
      · omega
      · exact vecB_lt (by omega) hk.pbox x hx
      · exact vecB_lt (by omega) hk.hash x hx
      · exact vecB_lt (by omega) (lateL_lt _) x hx
    · intro x hx; simp at hx; omega
theorem all4 {p : Nat → Prop} {a b c d : List Nat} (h1 : ∀ n ∈ a, p n) (h2 : ∀ n ∈ b, p n) (h3 : ∀ n ∈ c, p n) (h4 : ∀ n ∈ d, p n) : ∀ n ∈ a ++ b ++ c ++ d, p n := by
  intro n hn
  rw [List.mem_append, List.mem_append, List.mem_append] at hn
  rcases hn with ((h | h) | h) | h
  · exact h1 n h
  · exact h2 n h
  · exact h3 n h
  · exact h4 n h
theorem all3 {p : Nat → Prop} {a b c : List Nat} (h1 : ∀ n ∈ a, p n) (h2 : ∀ n ∈ b, p n) (h3 : ∀ n ∈ c, p n) : ∀ n ∈ a ++ b ++ c, p n := by
  intro n hn
  rw [List.mem_append, List.mem_append] at hn
  rcases hn with (h | h) | h
  · exact h1 n h
  · exact h2 n h
  · exact h3 n h
theorem World.grownBy_refl' (w : World) (row : Option Nat) : w.grownBy w row := ⟨rfl, rfl, rfl, Nat.le_refl _, fun _ _ _ => rfl⟩
theorem wp_app2 {P : Program} {w : World} {o : Oper} {a : Act} {K : Act → World → Prop} {Q : Exit → Act → World → Prop} (s x : Operand) (t : TypeId)
    (ho : o.op = .call { callee := .builtin .append, args := #[s, x], argTypes := #[t, t] })
    (B : Nat) (e : TypeId) (z : Value) (bytes : Nat) (F : Elem P t e z bytes)
    (v : Value) (xs : List Value) (hs : a.eval s = v) (hown : Own w B e v xs)
    (r : Value) (ys : List Value) (hx : a.eval x = r) (hr : Rd w r ys) (h1 : ∀ u ∈ ys, u.oneCell' = true)
    (hn : xs.length + ys.length < 1099511627776) (hB : B ≤ w.heap.size)
    (h : ∀ v' w', Own w' B e v' (xs ++ ys) → w.grownBy w' v.ownBlock → Below B w w' → K (a.put o.dst v') w') : o.wp P a w K Q := by
  obtain ⟨i, hi, hz, hsz, hby⟩ := info_parts F.inf
  have low := F.low
  have hmul : (xs.length + ys.length) * bytes ≤ (xs.length + ys.length) * 64 := Nat.mul_le_mul_left _ low
  have fin : ∀ (ad : Addr) cap, r = .slice (some ad) ys.length cap → (∀ (j : Nat) u, ys[j]? = some u → w.cell? (ad.add j) = some u) → o.wp P a w K Q := by
    intro ad cap hv hu
    subst hv
    refine wp_append_own w s x t ho B e i z 1 bytes F.ty hi hz hsz hby F.one (by omega) v xs.length xs hs hown ad ys.length cap ys hx (by omega) hu h1 (by unfold maxLen; omega) (by omega) hB ?_
    intro v' w' h2 h3 _
    have e1 : (xs ++ ys).length = xs.length + ys.length := by simp
    refine h v' w' (by unfold Own; rw [e1]; exact h2) h3 ?_
    refine (Below.refl B w).grown h3 hB ?_
    intro k hk
    exact (World.ownsRow.lt hown k hk).1
  obtain ⟨ad, cap, rfl, _, _, ⟨rfl, hcap⟩ | ⟨b, off, rfl, hc⟩⟩ := hr
  · cases ad with
    | none =>
      obtain rfl := hcap rfl
      have hrun := run_append_owned_none (P := P) (w := w) B t o.type e i 1 F.ty hi v xs.length xs hown
      unfold Oper.wp
      have hx' : a.eval x = .slice none 0 0 := hx
      simp [execOp, ho, resolve, invoke, builtin, hs, hx', hrun, Result.andThen]
      exact h v w (by simpa using hown) (World.grownBy_refl' w _) (Below.refl _ _)
    | some ad => exact fin ad cap rfl (by simp)
  · exact fin _ cap rfl (fun j u hu => by rw [Addr.add_lit]; exact hc j u hu)
theorem step_app2 {P : Program} {w : World} {ops : Array Oper} {o : Oper} {a : Act} {K : Act → World → Prop} {Q : Exit → Act → World → Prop} {E : Prop} (hw : Region.wanted o (yielded ops a.tmps) = true) (s x : Operand) (t : TypeId)
    (ho : o.op = .call { callee := .builtin .append, args := #[s, x], argTypes := #[t, t] })
    (B : Nat) (e : TypeId) (z : Value) (bytes : Nat) (F : Elem P t e z bytes)
    (v : Value) (xs : List Value) (hs : a.eval s = v) (hown : Own w B e v xs)
    (r : Value) (ys : List Value) (hx : a.eval x = r) (hr : Rd w r ys) (h1 : ∀ u ∈ ys, u.oneCell' = true)
    (hn : xs.length + ys.length < 1099511627776) (hB : B ≤ w.heap.size)
    (h : ∀ v' w', Own w' B e v' (xs ++ ys) → w.grownBy w' v.ownBlock → Below B w w' → K (a.put o.dst v') w') : if Region.wanted o (yielded ops a.tmps) = true then Oper.wp P o a w K Q else E := by
  rw [if_pos hw]
  exact wp_app2 s x t ho B e z bytes F v xs hs hown r ys hx hr h1 hn hB h
theorem own_lo {w w' : World} {B N : Nat} {e : TypeId} {v : Value} {xs : List Value} (h : Own w B e v xs) (hg : w.grownBy w' (some N)) (hN : N < B) : Own w' B e v xs := by
  refine World.ownsRow.kept h hg ?_
  cases hv : v.ownBlock with
  | none => exact .inl rfl
  | some k =>
    right
    intro hh
    have h1 := (World.ownsRow.lt h k hv).1
    have h2 : k = N := by simpa using hh
    omega
theorem own_hi {x w w' : World} {B N : Nat} {e : TypeId} {v : Value} {xs : List Value} (h0 : Own x B e v xs) (h : Own w B e v xs) (hg : w.grownBy w' (some N)) (hN : x.heap.size ≤ N) : Own w' B e v xs := by
  refine World.ownsRow.kept h hg ?_
  cases hv : v.ownBlock with
  | none => exact .inl rfl
  | some k =>
    right
    intro hh
    have h1 := (World.ownsRow.lt h0 k hv).2
    have h2 : k = N := by simpa using hh
    omega
/-- append onto a full slice that is not empty: all is laid anew -/
theorem wp_app_full {P : Program} {w : World} {o : Oper} {a : Act} {K : Act → World → Prop} {Q : Exit → Act → World → Prop} (s x : Operand) (t : TypeId)
    (ho : o.op = .call { callee := .builtin .append, args := #[s, x], argTypes := #[t, t] })
    (e : TypeId) (z : Value) (bytes : Nat) (F : Elem P t e z bytes) (ad : Addr) (n : Nat)
    (xs : List Value) (hs : a.eval s = .slice (some ad) n n) (hrs : Rd w (.slice (some ad) n n) xs) (hx0 : 0 < xs.length)
    (r : Value) (ys : List Value) (hx : a.eval x = r) (hr : Rd w r ys) (hy0 : 0 < ys.length)
    (hn : xs.length + ys.length < 1099511627776)
    (h : ∀ v' w', Own w' w.heap.size e v' (xs ++ ys) → Below w.heap.size w w' → K (a.put o.dst v') w') : o.wp P a w K Q := by
  obtain ⟨i, hi, hz, hsz, hby⟩ := info_parts F.inf
  have low := F.low
  have hmul : (xs.length + ys.length) * bytes ≤ (xs.length + ys.length) * 64 := Nat.mul_le_mul_left _ low
  obtain ⟨a1, c1, e1, _, _, ⟨rfl, _⟩ | ⟨b1, o1, rfl, hc1⟩⟩ := hrs
  · simp at hx0
  obtain ⟨a2, c2, rfl, _, _, ⟨rfl, _⟩ | ⟨b2, o2, rfl, hc2⟩⟩ := hr
  · simp at hy0
  simp only [Value.slice.injEq, Option.some.injEq] at e1
  obtain ⟨rfl, rfl, -⟩ := e1
  obtain ⟨v', w', hrun, r1, r2⟩ := run_append_arg_grows (P := P) w t o.type e i z 1 bytes F.ty hi hz hsz hby F.one (by omega) ⟨b1, o1, none⟩ xs.length xs.length xs (by omega) (fun j u hj => by rw [Addr.add_lit]; exact hc1 j u hj) ⟨b2, o2, none⟩ ys.length c2 ys (by omega) (fun j u hj => by rw [Addr.add_lit]; exact hc2 j u hj) (by omega) (by unfold maxLen; omega) (by omega)
  have e3 : (xs ++ ys).length = xs.length + ys.length := by simp
  unfold Oper.wp
  simp [execOp, ho, resolve, invoke, builtin, hs, hx, hrun, Result.andThen]
  refine h v' w' (by unfold Own; rw [e3]; exact r1) ((Below.refl _ _).grown r2 (Nat.le_refl _) ?_)
  intro k hk
  cases hk
theorem ev {a : Act} {s : Nat} {v : Value} (h : a.tmps[s]?.getD undef = v) : a.eval (.tmp s) = v := by
  first
  | exact h
  | simpa [Act.eval, Array.getD_eq_getD_getElem?] using h
end Go.Proofs.Ytohldijomcljkaa
/- Plain: what is digested are bytes. -/
namespace Go.Proofs.Ytohldijomcljkaa
open Go.RowKit WalkM ShaM WireM
set_option linter.unusedVariables false
theorem woD_ok {t : List NodeD} (hok : TreeOk t) (ps : List Int) (x : Nat) : NodeOk (woD t ps x) := by
  have h := hok.nd x
  unfold woD
  split
  · split
    · exact noNode_ok
    · exact h
  · exact ⟨h.kind, h.source, h.box, h.sign, h.ident, h.par, h.sig, h.pbox, h.hash, fun u hu => h.late u (List.mem_filter.1 hu).1⟩
theorem textN_lt' (t : Nat → NodeD) (hk : ∀ x, NodeOk (t x)) (hs : ∀ x, smallB (t x) = true) (k x : Nat) : ∀ y ∈ textN t k x, y < 256 := by
  have hn := nodeB_lt (hk x) (hs x)
  intro y hy
  cases k with
  | zero =>
    rw [textN_zero] at hy
    simp only [List.mem_append, List.mem_cons, List.not_mem_nil, or_false] at hy
    rcases hy with (rfl | hy) | hy
    · omega
    · exact beN_lt _ _ y hy
    · exact hn y hy
  | succ k =>
    rw [textN_succ] at hy
    simp only [List.mem_append, List.mem_cons, List.not_mem_nil, or_false] at hy
    rcases hy with (rfl | hy) | hy | hy
    · omega
    · exact hn y hy
    · exact vecB_lt (by rw [hashN_len]; omega) (hashN_lt _ _ _) y hy
    · exact vecB_lt (by rw [hashN_len]; omega) (hashN_lt _ _ _) y hy
end Go.Proofs.Ytohldijomcljkaa
/- An order-free rule for drawn regions of which one operation (the q-th) may change old memory, as a relation says; an invariant of worlds holds at each. -/
namespace Go.Proofs.Ytohldijomcljkaa
open Go.RowKit
set_option linter.unusedVariables false
/-- what the operation i may do to a world -/
def stepR (S : World → World → Prop) (q : Option Nat) (i : Nat) (x y : World) : Prop := bif some i == q then S x y else Below x.heap.size x y
theorem stepR_no {S : World → World → Prop} {q : Option Nat} {i : Nat} {x y : World} (h : (some i == q) = false) (hb : Below x.heap.size x y) : stepR S q i x y := by unfold stepR; rw [h]; exact hb
theorem stepR_yes {S : World → World → Prop} {q : Option Nat} {i : Nat} {x y : World} (h : (some i == q) = true) (hs : S x y) : stepR S q i x y := by unfold stepR; rw [h]; exact hs
/-- is the operation i run ahead of q, in every order? -/
def waitsB (l : List Oper) (q : Option Nat) (i : Nat) : Bool := match q with
  | none => true
  | some j => i == j || match l[j]? with
    | some oj => oj.after.toList.any fun e => Region.binds .any e && e.on == i
    | none => false
/-- the facts keep; that of q only what is laid behind it -/
def KeepsR (I : World → Prop) (S : World → World → Prop) : Option Nat → List Fact → Prop
  | _, [] => True
  | none, s :: sat => (∀ v x y, s v x → I x → S x y → s v y) ∧ KeepsR I S none sat
  | some 0, s :: sat => (∀ v x y, s v x → I x → Below x.heap.size x y → s v y) ∧ KeepsR I S none sat
  | some (q + 1), s :: sat => (∀ v x y, s v x → I x → S x y → s v y) ∧ KeepsR I S (some q) sat
theorem keepsR_nil {I : World → Prop} {S : World → World → Prop} {q : Option Nat} : KeepsR I S q [] := by cases q with
  | none => trivial
  | some q => cases q <;> trivial
theorem keepsR_n {I : World → Prop} {S : World → World → Prop} {s : Fact} {sat : List Fact} (h : ∀ v x y, s v x → I x → S x y → s v y) (t : KeepsR I S none sat) : KeepsR I S none (s :: sat) := ⟨h, t⟩
theorem keepsR_q {I : World → Prop} {S : World → World → Prop} {s : Fact} {sat : List Fact} (h : ∀ v x y, s v x → I x → Below x.heap.size x y → s v y) (t : KeepsR I S none sat) : KeepsR I S (some 0) (s :: sat) := ⟨h, t⟩
theorem keepsR_s {I : World → Prop} {S : World → World → Prop} {q : Nat} {s : Fact} {sat : List Fact} (h : ∀ v x y, s v x → I x → S x y → s v y) (t : KeepsR I S (some q) sat) : KeepsR I S (some (q + 1)) (s :: sat) := ⟨h, t⟩
theorem keepsR_out {I : World → Prop} {S : World → World → Prop} : ∀ (sat : List Fact) (q : Option Nat), KeepsR I S q sat →
    (∀ i v x y, some i ≠ q → (sat.getD i (fun _ _ => True)) v x → I x → S x y → (sat.getD i (fun _ _ => True)) v y) ∧
    (∀ i v x y, some i = q → (sat.getD i (fun _ _ => True)) v x → I x → Below x.heap.size x y → (sat.getD i (fun _ _ => True)) v y) := by
  intro sat
  induction sat with
  | nil => intro q _; exact ⟨fun i v x y _ _ _ _ => by simp, fun i v x y _ _ _ _ => by simp⟩
  | cons s sat ih =>
    intro q h
    match q, h with
    | none, h =>
      refine ⟨fun i v x y hq hv hi hs => ?_, fun i v x y hq => by cases hq⟩
      cases i with
      | zero => exact h.1 v x y hv hi hs
      | succ i => exact (ih none h.2).1 i v x y (by simp) hv hi hs
    | some 0, h =>
      refine ⟨fun i v x y hq hv hi hs => ?_, fun i v x y hq hv hi hs => ?_⟩
      · cases i with
        | zero => exact absurd rfl hq
        | succ i => exact (ih none h.2).1 i v x y (by simp) hv hi hs
      · cases i with
        | zero => exact h.1 v x y hv hi hs
        | succ i => cases hq
    | some (q + 1), h =>
      refine ⟨fun i v x y hq hv hi hs => ?_, fun i v x y hq hv hi hs => ?_⟩
      · cases i with
        | zero => exact h.1 v x y hv hi hs
        | succ i => exact (ih (some q) h.2).1 i v x y (fun e => hq (by simp at e; rw [e])) hv hi hs
      · cases i with
        | zero => cases hq
        | succ i => exact (ih (some q) h.2).2 i v x y (by simp at hq; rw [hq]) hv hi hs
/-- what is owed for one operation -/
def Owed7 (P : Program) (l : List Oper) (Q : Exit → Act → World → Prop) (sat : List Fact) (I : World → Prop) (S : World → World → Prop) (q : Option Nat) (a0 : Act) (W : World) (i : Nat) (o : Oper) : Prop :=
  ∀ (a : Act) (w : World), I w → (waitsB l q i = true → Below W.heap.size W w) → (∀ s, freeAt l i s = true → a.tmps[s]?.getD undef = a0.tmps[s]?.getD undef) → factsOf3 sat l a w o.after.toList →
    ∀ K : Act → World → Prop, (∀ v w', (sat.getD i (fun _ _ => True)) (seenBy o a v) w' → stepR S q i w w' → K (a.put o.dst v) w') →
      if Region.wanted o (yielded l.toArray a.tmps) = true then Oper.wp P o a w K Q else K (a.put o.dst undef) w
def OwedAll7 (P : Program) (l : List Oper) (Q : Exit → Act → World → Prop) (sat : List Fact) (I : World → Prop) (S : World → World → Prop) (q : Option Nat) (a0 : Act) (W : World) : Nat → List Oper → Prop
  | _, [] => True
  | i, o :: os => Owed7 P l Q sat I S q a0 W i o ∧ OwedAll7 P l Q sat I S q a0 W (i + 1) os
theorem OwedAll7.nil {P : Program} {l : List Oper} {Q : Exit → Act → World → Prop} {sat : List Fact} {I : World → Prop} {S : World → World → Prop} {q : Option Nat} {a0 : Act} {W : World} {i : Nat} : OwedAll7 P l Q sat I S q a0 W i [] := trivial
theorem OwedAll7.cons {P : Program} {l : List Oper} {Q : Exit → Act → World → Prop} {sat : List Fact} {I : World → Prop} {S : World → World → Prop} {q : Option Nat} {a0 : Act} {W : World} {i : Nat} {o : Oper} {os : List Oper} (h : Owed7 P l Q sat I S q a0 W i o) (t : OwedAll7 P l Q sat I S q a0 W (i + 1) os) : OwedAll7 P l Q sat I S q a0 W i (o :: os) := ⟨h, t⟩
theorem owedAll7_get {P : Program} {l : List Oper} {Q : Exit → Act → World → Prop} {sat : List Fact} {I : World → Prop} {S : World → World → Prop} {q : Option Nat} {a0 : Act} {W : World} : ∀ (os : List Oper) (k : Nat), OwedAll7 P l Q sat I S q a0 W k os → ∀ i o, os[i]? = some o → Owed7 P l Q sat I S q a0 W (k + i) o := by
  intro os
  induction os with
  | nil => intro k _ i o h; simp at h
  | cons x os ih =>
    intro k h i o ho
    cases i with
    | zero => simp at ho; subst ho; exact h.1
    | succ i =>
      have := ih (k + 1) h.2 i o (by simpa using ho)
      rw [show k + (i + 1) = k + 1 + i by omega]; exact this
structure OnceJ7 (l : List Oper) (sat : List Fact) (I : World → Prop) (q : Option Nat) (a0 : Act) (W : World) (listed : Array Bool) (a : Act) (w : World) : Prop where
  size : a.tmps.size = a0.tmps.size
  defers : a.defers = a0.defers
  out : ∀ s, (∀ j o, listed.getD j false = true → l[j]? = some o → o.dst ≠ some s) → a.tmps[s]?.getD undef = a0.tmps[s]?.getD undef
  closed : ∀ j o, listed.getD j false = true → l[j]? = some o → ∀ e ∈ o.after.toList, Region.binds .any e = true → listed.getD e.on false = true
  low : I w
  pre : (∀ j, q = some j → listed.getD j false = false) → Below W.heap.size W w
  facts : ∀ i, listed.getD i false = true → factAt3 sat l a w i
  lsize : listed.size = l.length
theorem once7_any {P : Program} {l : List Oper} {Q : Exit → Act → World → Prop} {sat : List Fact} {I : World → Prop} {S : World → World → Prop} {q : Option Nat} {a0 : Act} {W : World} (hk : KeepsR I S q sat) (h12 : ∀ x y, I x → Below x.heap.size x y → S x y) (hIS : ∀ x y, I x → S x y → I y) (hd : dstOk3 l a0.tmps.size = true) (he : edgesOk3 l = true)
    (hops : OwedAll7 P l Q sat I S q a0 W 0 l)
    (hend : ∀ (a : Act) (w : World), a.tmps.size = a0.tmps.size → a.defers = a0.defers → (∀ s, (dstsOf l).contains s = false → a.tmps[s]?.getD undef = a0.tmps[s]?.getD undef) → I w → (∀ i, i < l.length → factAt3 sat l a w i) → Q .normal a w) :
    ∀ (fuel : Nat) (listed : Array Bool) (a : Act) (w : World), OnceJ7 l sat I q a0 W listed a w → listed.toList.count false ≤ fuel → wpAny P .any l.toArray Q fuel listed a w := by
  intro fuel
  have hfin : ∀ (listed : Array Bool) (a : Act) (w : World), OnceJ7 l sat I q a0 W listed a w → Region.ready .any l.toArray listed = [] → Q .normal a w := by
    intro listed a w J hr
    refine hend a w J.size J.defers (fun s hs => J.out s fun j o _ ho hd' => ?_) J.low fun i hi => J.facts i ?_
    · have : (dstsOf l).contains s = true := by
        rw [List.contains_iff_mem]
        exact List.mem_filterMap.2 ⟨o, List.mem_of_getElem? ho, hd'⟩
      rw [this] at hs; cases hs
    cases hb : listed.getD i false with
    | true => rfl
    | false => exact absurd hr (ready_some3 he J.lsize hi hb)
  induction fuel with
  | zero =>
    intro listed a w J hc
    have hr : Region.ready .any l.toArray listed = [] := by
      refine Classical.byContradiction fun hn => ?_
      obtain ⟨i, hi⟩ := List.exists_mem_of_ne_nil _ hn
      have h1 := (mem_ready.1 hi).1
      have hlt : i < listed.size := by
        rcases Nat.lt_or_ge i listed.size with h | h
        · exact h
        · rw [Array.getD_eq_getD_getElem?, Array.getElem?_eq_none h] at h1; simp at h1
      rw [Array.getD_eq_getD_getElem?, Array.getElem?_eq_getElem hlt] at h1
      have h2 : false ∈ listed.toList := by
        rw [← show listed[i] = false from h1]
        simp
      have := List.count_pos_iff.2 h2
      omega
    exact ⟨hr, hfin listed a w J hr⟩
  | succ fuel ih =>
    intro listed a w J hc
    refine ⟨hfin listed a w J, ?_⟩
    intro i hi
    obtain ⟨o, ho, hdep⟩ := ready_spec hi
    have h1 := (mem_ready.1 hi).1
    have hol : l[i]? = some o := by simpa using ho
    have hil : i < l.length := by
      rcases Nat.lt_or_ge i l.length with h | h
      · exact h
      · rw [List.getElem?_eq_none h] at hol; cases hol
    have hlt : i < listed.size := by rw [J.lsize]; exact hil
    obtain ⟨d, hob, hdn⟩ := obs_some hd hol
    refine wpOp_step ho ?_
    intro K' hK'
    have hO := owedAll7_get l 0 hops i o hol
    rw [Nat.zero_add] at hO
    have h1f : listed.getD i false = false := by
      rw [Array.getD_eq_getD_getElem?, Array.getElem?_eq_getElem hlt] at h1 ⊢
      exact h1
    have hfree : ∀ s, freeAt l i s = true → a.tmps[s]?.getD undef = a0.tmps[s]?.getD undef := by
      intro s hs
      refine J.out s fun j o' hj hoj hds => ?_
      have hjl : j < l.length := by
        rcases Nat.lt_or_ge j l.length with h | h
        · exact h
        · rw [List.getElem?_eq_none h] at hoj; cases hoj
      have := List.all_eq_true.1 hs j (List.mem_range.2 hjl)
      rw [hoj] at this
      simp only [Bool.or_eq_true, bne_iff_ne, beq_iff_eq, List.any_eq_true, Bool.and_eq_true] at this
      rcases this with (h | h) | ⟨e, he, hb, hei⟩
      · exact h hds
      · subst h; rw [h1f] at hj; cases hj
      · have := J.closed j o' hj hoj e he hb
        rw [hei, h1f] at this; cases this
    refine hO a w J.low (fun hqi => J.pre fun j hj => by
      subst hj
      unfold waitsB at hqi
      simp only [Bool.or_eq_true, beq_iff_eq] at hqi
      rcases hqi with rfl | hqi
      · exact h1f
      · cases hoj : l[j]? with
        | none => rw [hoj] at hqi; cases hqi
        | some oj =>
          rw [hoj] at hqi
          simp only [List.any_eq_true, Bool.and_eq_true, beq_iff_eq] at hqi
          obtain ⟨e, he, hb, hei⟩ := hqi
          cases hl : listed.getD j false with
          | false => rfl
          | true =>
            have := J.closed j oj hl hoj e he hb
            rw [hei, h1f] at this; cases this) hfree (factsOf3_mk _ fun e hm hb => J.facts _ (hdep e hm (needs_binds hb))) K' ?_
    intro v w' hv hbw
    have hS : S w w' := by
      unfold stepR at hbw
      cases hq : some i == q with
      | true => rw [hq] at hbw; exact hbw
      | false => rw [hq] at hbw; exact h12 _ _ J.low hbw
    refine hK' _ _ (ih _ _ _ ?_ ?_)
    · constructor
      · rw [put_size]; exact J.size
      · rw [put_defers]; exact J.defers
      · intro s hs
        have hii : (listed.setIfInBounds i true).getD i false = true := by
          rw [Array.getD_eq_getD_getElem?, Array.getElem?_setIfInBounds, if_pos rfl, if_pos hlt]; rfl
        rw [put_ne a o.dst s v (hs i o hii hol)]
        refine J.out s fun j o' hj hoj => hs j o' ?_ hoj
        by_cases hji : j = i
        · subst hji; exact hii
        · rw [Array.getD_eq_getD_getElem?, Array.getElem?_setIfInBounds, if_neg (fun e => hji e.symm), ← Array.getD_eq_getD_getElem?]; exact hj
      · intro j o' hj hoj e hem hb
        have hstep : ∀ m, listed.getD m false = true → (listed.setIfInBounds i true).getD m false = true := by
          intro m hm
          by_cases hmi : m = i
          · subst hmi; rw [Array.getD_eq_getD_getElem?, Array.getElem?_setIfInBounds, if_pos rfl, if_pos hlt]; rfl
          · rw [Array.getD_eq_getD_getElem?, Array.getElem?_setIfInBounds, if_neg (fun e => hmi e.symm), ← Array.getD_eq_getD_getElem?]; exact hm
        by_cases hji : j = i
        · subst hji
          rw [hol] at hoj
          cases hoj
          exact hstep _ (hdep e hem hb)
        · refine hstep _ (J.closed j o' ?_ hoj e hem hb)
          rw [Array.getD_eq_getD_getElem?, Array.getElem?_setIfInBounds, if_neg (fun e => hji e.symm)] at hj
          rw [Array.getD_eq_getD_getElem?]; exact hj
      · exact hIS _ _ J.low hS
      · intro hpre
        have hne : (some i == q) = false := by
          rw [beq_eq_false_iff_ne]
          intro e
          have := hpre i e.symm
          rw [Array.getD_eq_getD_getElem?, Array.getElem?_setIfInBounds, if_pos rfl, if_pos hlt] at this
          cases this
        have hbw2 : Below w.heap.size w w' := by unfold stepR at hbw; rw [hne] at hbw; exact hbw
        have hpr : Below W.heap.size W w := J.pre fun j hj => by
          have := hpre j hj
          by_cases hji : j = i
          · subst hji; exact h1f
          · rw [Array.getD_eq_getD_getElem?, Array.getElem?_setIfInBounds, if_neg (fun e => hji e.symm), ← Array.getD_eq_getD_getElem?] at this; exact this
        exact hpr.trans (hbw2.mono hpr.size)
      · intro j hj
        unfold factAt3
        cases hoj : l[j]? with
        | none => trivial
        | some o' =>
          obtain ⟨d', hd', _⟩ := obs_some hd hoj
          simp only [hd']
          by_cases hji : j = i
          · subst hji
            rw [hol] at hoj
            cases hoj
            rw [hob] at hd'
            cases hd'
            rw [put_obs a hob v (by rw [J.size]; exact hdn)]
            exact hv
          · rw [put_ne a o.dst d' v (by
              intro hdd
              rcases obs_ne hd hoj hol hd' hdd hji with h | ⟨e, he, hb, hei⟩
              · exact h rfl
              · have := J.closed j o' (by
                  rw [Array.getD_eq_getD_getElem?, Array.getElem?_setIfInBounds, if_neg (fun e => hji e.symm)] at hj
                  rw [Array.getD_eq_getD_getElem?]; exact hj) hoj e he hb
                rw [hei, h1f] at this; cases this)]
            have hjl : listed.getD j false = true := by
              rw [Array.getD_eq_getD_getElem?, Array.getElem?_setIfInBounds, if_neg (fun e => hji e.symm)] at hj
              rw [Array.getD_eq_getD_getElem?]; exact hj
            have := J.facts j hjl
            unfold factAt3 at this
            rw [hoj] at this
            simp only [hd'] at this
            by_cases hjq : some j = q
            · unfold stepR at hbw
              rw [show (some i == q) = false from by rw [beq_eq_false_iff_ne, ← hjq]; intro e; exact hji (by simpa using e.symm)] at hbw
              exact (keepsR_out sat q hk).2 j _ _ _ hjq this J.low hbw
            · exact (keepsR_out sat q hk).1 j _ _ _ hjq this J.low hS
      · rw [Array.size_setIfInBounds]; exact J.lsize
    · rw [Array.toList_setIfInBounds, List.count_set (by simpa using hlt)]
      have h2 : listed.toList[i]'(by simpa using hlt) = false := by
        rw [Array.getD_eq_getD_getElem?, Array.getElem?_eq_getElem hlt] at h1
        simpa using h1
      rw [h2, if_pos (show (false == false) = true from rfl), if_neg (by decide)]
      omega
theorem wp_region_rel {P : Program} {id : Nat} {l : List Oper} {Q : Exit → Act → World → Prop} {a : Act} {w : World} (sat : List Fact) (fin : List Bool) (I : World → Prop) (S : World → World → Prop) (q : Option Nat) (hm : P.follows .mixedOrders = true) (hk : KeepsR I S q sat) (h0 : I w.drew) (h12 : ∀ x y, I x → Below x.heap.size x y → S x y) (hIS : ∀ x y, I x → S x y → I y) (hd : dstOk3 l a.tmps.size = true) (he : edgesOk3 l = true)
    (hops : OwedAll7 P l Q sat I S q a w 0 l)
    (hend : ∀ (f : Nat → Value) (w' : World), I w' → factsAll3 sat fin f w' 0 l → Q .normal (frameOf l a f) w') :
    (Code.region id l.toArray true).wp P Q a w := by
  refine wp_region_any hm (once7_any hk h12 hIS hd he hops ?_ _ _ _ _ ⟨rfl, rfl, fun _ _ => rfl, ?_, h0, fun _ => ⟨rfl, rfl, rfl, Nat.le_refl _, fun _ _ => rfl⟩, ?_, by simp⟩ ?_)
  · intro a' w' h1 h2 h3 h4 h5
    rw [once_frame h1 h2 h3]
    refine hend _ w' h4 (factsAll3_mk l 0 ?_)
    intro i o d ho hdd hfi
    have hil : i < l.length := by
      rcases Nat.lt_or_ge i l.length with h | h
      · exact h
      · rw [List.getElem?_eq_none h] at ho; cases ho
    have := h5 i hil
    unfold factAt3 at this
    rw [ho] at this
    simp only [hdd] at this
    rw [Nat.zero_add]
    exact this
  · intro i _ hi
    exfalso
    rw [Array.getD_eq_getD_getElem?, Array.getElem?_replicate] at hi
    split at hi <;> simp at hi
  · intro i hi
    exfalso
    rw [Array.getD_eq_getD_getElem?, Array.getElem?_replicate] at hi
    split at hi <;> simp at hi
  · simp
theorem owed7_go {P : Program} {l : List Oper} {Q : Exit → Act → World → Prop} {sat : List Fact} {I : World → Prop} {S : World → World → Prop} {q : Option Nat} {a0 : Act} {W : World} {i : Nat} {o : Oper}
    (h : ∀ (a : Act) (w : World), I w → (waitsB l q i = true → Below W.heap.size W w) → (∀ s, freeAt l i s = true → a.tmps[s]?.getD undef = a0.tmps[s]?.getD undef) → factsOf3 sat l a w o.after.toList →
      Region.wanted o (yielded l.toArray a.tmps) = true ∧ ∀ K : Act → World → Prop, (∀ v w', (sat.getD i (fun _ _ => True)) (seenBy o a v) w' → stepR S q i w w' → K (a.put o.dst v) w') → Oper.wp P o a w K Q) : Owed7 P l Q sat I S q a0 W i o := by
  intro a w hb hq ho hf K hK
  rw [if_pos (h a w hb hq ho hf).1]
  exact (h a w hb hq ho hf).2 K hK
end Go.Proofs.Ytohldijomcljkaa
