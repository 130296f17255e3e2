/- Slices whose elements take k cells: what is owned, and an append of one. -/
import Derived.Test.YtfpjpakjlhidkaaMem
namespace Go.Proofs.Ytfpjpakjlhidkaa
open Go.RowKit

structure ElemK (P : Program) (t e : TypeId) (z : Value) (k bytes : Nat) : Prop where
  ty : P.underlying t = some (.slice e)
  inf : (P.info? e).map (fun i => (i.zero, i.size, i.bytes)) = some (some z, k, bytes)
  one : z.cells.size = k
  pos : 0 < k
  low : bytes ≤ 512

theorem info_partsK {P : Program} {e : TypeId} {z : Value} {k bytes : Nat} (h : (P.info? e).map (fun i => (i.zero, i.size, i.bytes)) = some (some z, k, bytes)) :
    ∃ i, P.info? e = some i ∧ i.zero = some z ∧ i.size = k ∧ i.bytes = bytes := by
  cases hi : P.info? e with
  | none => simp [hi] at h
  | some i =>
    simp [hi] at h
    exact ⟨i, rfl, h.1, h.2.1, h.2.2⟩

/-- The slice v of the call's own memory: n elements of k cells, all cells in a row. -/
def OwnK (w : World) (B : Nat) (e : TypeId) (k : Nat) (v : Value) (n : Nat) (xs : List Value) : Prop := w.ownsRow B e k v n xs
theorem OwnK.nil (w : World) (B : Nat) (e : TypeId) (k : Nat) : OwnK w B e k (.slice none 0 0) 0 [] := World.ownsRow_nil w B e k
theorem OwnK.len {w : World} {B : Nat} {e : TypeId} {k : Nat} {v : Value} {n : Nat} {xs : List Value} (h : OwnK w B e k v n xs) : xs.length = n * k := h.1
theorem OwnK.alloc {w : World} {B : Nat} {e : TypeId} {k : Nat} {v : Value} {n : Nat} {xs : List Value} (h : OwnK w B e k v n xs) (o : Obj) : OwnK (w.alloc o) B e k v n xs := World.ownsRow.alloc h o
theorem OwnK.drewN {w : World} {B : Nat} {e : TypeId} {k : Nat} {v : Value} {n : Nat} {xs : List Value} (h : OwnK w B e k v n xs) (m : Nat) : OwnK (w.drewN m) B e k v n xs := h
theorem OwnK.mono {w : World} {B B' : Nat} {e : TypeId} {k : Nat} {v : Value} {n : Nat} {xs : List Value} (h : OwnK w B e k v n xs) (hB : B' ≤ B) : OwnK w B' e k v n xs := by
  obtain ⟨h0, h | ⟨g, cap, cur, hv, hg, r⟩⟩ := h
  · exact ⟨h0, .inl h⟩
  · exact ⟨h0, .inr ⟨g, cap, cur, hv, by omega, r⟩⟩
theorem OwnK.below {w w' : World} {B B' : Nat} {e : TypeId} {k : Nat} {v : Value} {n : Nat} {xs : List Value} (h : OwnK w B e k v n xs) (hb : Below B' w w') (hB : w.heap.size ≤ B') : OwnK w' B e k v n xs := by
  obtain ⟨h0, h | ⟨g, cap, cur, hv, hg, hh, r⟩⟩ := h
  · exact ⟨h0, .inl h⟩
  · refine ⟨h0, .inr ⟨g, cap, cur, hv, hg, ?_, r⟩⟩
    have hl : g < w.heap.size := by
      rcases Nat.lt_or_ge g w.heap.size with h' | h'
      · exact h'
      · simp [Array.getElem?_eq_none h'] at hh
    rw [hb.block g (by omega)]
    exact hh
/-- Which slice it is, and its cells. -/
theorem OwnK.out {w : World} {B : Nat} {e : TypeId} {k : Nat} {v : Value} {n : Nat} {xs : List Value} (h : OwnK w B e k v n xs) (hn : 0 < n) :
    ∃ g cap, v = .slice (some ⟨g, 0, none⟩) n cap ∧ B ≤ g ∧ g < w.heap.size ∧ n ≤ cap ∧ cap ≤ maxLen ∧ (∀ (j : Nat) u, xs[j]? = some u → w.cell? ⟨g, j, none⟩ = some u) ∧ ∃ cur, w.heap[g]? = some (.cells cur e (0, 0)) ∧ cur.size = cap * k ∧ cur.toList.take (n * k) = xs := by
  have hc := fun g => World.ownsRow.cells (g := g) h
  obtain ⟨_, h⟩ := h
  rcases h with ⟨rfl, h0⟩ | ⟨g, cap, cur, rfl, hg, hh, hn, hm, hs, ht⟩
  · omega
  · refine ⟨g, cap, rfl, hg, ?_, hn, hm, ?_, cur, hh, hs, ht⟩
    · rcases Nat.lt_or_ge g w.heap.size with h' | h'
      · exact h'
      · simp [Array.getElem?_eq_none h'] at hh
    · intro j u hu
      have := hc g rfl j u hu
      simpa [Addr.add_lit] using this
section
variable {P : Program} {w : World}
/-- 's = append(s, x)', x an element of k cells that lies in a new block of its own. -/
theorem wpList_pushK {ops : Array Oper} {rest : List Oper} {o : Oper} {a : Act} {Q : Exit → Act → World → Prop} (hgd : o.guard = none) (s x : Operand) (t : TypeId)
    (ho : o.op = .call { callee := .builtin .append, args := #[s, x], argTypes := #[t, t] })
    (B : Nat) (e : TypeId) (z : Value) (k bytes : Nat) (F : ElemK P t e z k bytes)
    (v : Value) (n : Nat) (xs : List Value) (hs : a.eval s = v) (hown : OwnK w B e k v n xs)
    (N : Nat) (ys : List Value) (hx : a.eval x = .slice (some ⟨N, 0, none⟩) 1 1) (hl : ys.length = k) (hu : ∀ (j : Nat) u, ys[j]? = some u → w.cell? ⟨N, j, none⟩ = some u) (h1 : ∀ u ∈ ys, u.oneCell' = true)
    (hn : n < 137438953472) (hB : B ≤ w.heap.size)
    (h : ∀ v' w', OwnK w' B e k v' (n + 1) (xs ++ ys) → Below B w w' → wpList P ops Q rest (a.put o.dst v') w') : wpList P ops Q (o :: rest) a w := by
  obtain ⟨i, hi, hz, hsz, hby⟩ := info_partsK F.inf
  have low := F.low
  refine wpList_append_own w hgd s x t ho B e i z k bytes F.ty hi hz hsz hby F.one F.pos v n xs hs hown ⟨N, 0, none⟩ 1 1 ys hx (by rw [hl, Nat.one_mul]) (fun j u hj => by rw [Addr.add_lit, Nat.zero_add]; exact hu j u hj) h1 ?_ ?_ hB ?_
  · unfold maxLen; omega
  · have : (n + 1) * bytes ≤ (n + 1) * 512 := Nat.mul_le_mul_left _ low
    omega
  · intro v' w' h2 h3 _
    refine h v' w' h2 ?_
    refine (Below.refl B w).grown h3 hB ?_
    intro k hk
    exact (World.ownsRow.lt hown k hk).1
end
theorem cells_new {w : World} {cs : List Value} {e : TypeId} {N : Nat} (hN : N = w.heap.size) : ∀ (j : Nat) u, cs[j]? = some u → (w.alloc (.cells cs.toArray e)).cell? ⟨N, j, none⟩ = some u := by
  intro j u h
  subst hN
  rw [cell_of_row _ _ _ _ _ _ (heap_alloc_new w _)]
  simpa using h

/-- A block that is known whole. -/
def Blk (w : World) (g : Nat) (t : TypeId) (cs : Array Value) : Prop := w.heap[g]? = some (.cells cs t (0, 0))
theorem Blk.lt {w : World} {g : Nat} {t : TypeId} {cs : Array Value} (h : Blk w g t cs) : g < w.heap.size := by
  rcases Nat.lt_or_ge g w.heap.size with hlt | hge
  · exact hlt
  · unfold Blk at h; rw [Array.getElem?_eq_none hge] at h; cases h
theorem Blk.new (w : World) (t : TypeId) (cs : Array Value) : Blk (w.alloc (.cells cs t)) w.heap.size t cs := heap_alloc_new w _
theorem Blk.below {w w' : World} {g : Nat} {t : TypeId} {cs : Array Value} {B : Nat} (h : Blk w g t cs) (hb : Below B w w') (hg : g < B) : Blk w' g t cs := (hb.block g hg).trans h
theorem Blk.alloc {w : World} {g : Nat} {t : TypeId} {cs : Array Value} (h : Blk w g t cs) (o : Obj) : Blk (w.alloc o) g t cs := (Below.heap_alloc w o g h.lt).trans h
theorem Blk.drewN {w : World} {g : Nat} {t : TypeId} {cs : Array Value} (h : Blk w g t cs) (n : Nat) : Blk (w.drewN n) g t cs := h
theorem Blk.cell {w : World} {g : Nat} {t : TypeId} {cs : Array Value} (h : Blk w g t cs) (i : Nat) : w.cell? ⟨g, i, none⟩ = cs[i]? := cell_of_row w g i cs t (0, 0) h
theorem Blk.frozen {w : World} {g : Nat} {t : TypeId} {cs : Array Value} (h : Blk w g t cs) (i : Nat) : w.frozen? ⟨g, i, none⟩ = false := frozen_of_row w g i cs t h
/-- A store of a whole struct or array into a variable of its own. -/
theorem wpList_store_blk {P : Program} {w : World} {ops : Array Oper} {rest : List Oper} {o : Oper} {a : Act} {Q : Exit → Act → World → Prop} (hgd : o.guard = none) (ty : TypeId) (x y : Operand) (ho : o.op = .store ty x y)
    (g : Nat) (cells : Array Value) (hx : a.eval x = .pointer (some ⟨g, 0, none⟩)) (hy : a.eval y = .agg cells)
    (t : TypeId) (old : Array Value) (hold : Blk w g t old) (hi : (P.info? ty).map (·.size) = some cells.size)
    (hs : old.size = cells.size) (h1 : cells.toList.all (·.oneCell') = true)
    (h : ∀ w2, Blk w2 g t cells → (∀ B, B ≤ g → Below B w w2) → (∀ i, i ≠ g → w2.heap[i]? = w.heap[i]?) → w2.heap.size = w.heap.size → wpList P ops Q rest (a.put o.dst undef) w2) : wpList P ops Q (o :: rest) a w := by
  refine wpList_store_row hgd ty x y ho g cells hx hy t old hold hi hs (by rw [← Array.all_toList]; exact h1) ?_
  refine h _ ?_ ?_ ?_ ?_
  · exact setRow_heap w g old cells t _ hold
  · intro B hB
    exact ⟨rfl, rfl, rfl, by simp, fun i hi => setRow_other w g i cells (by omega)⟩
  · intro i hi
    exact setRow_other w g i cells hi
  · simp
/-- two results, the first of them a struct's variable -/
theorem results_row2 {P : Program} {fn : Func} {p q : Tmp} {ty : TypeId} (h : fn.results = #[.cell p ty, .tmp q]) (tmps : Array Value) (w : World) (g : Nat) (t : TypeId) (cs : Array Value) (d : TypeDesc)
    (hp : tmps.getD p undef = .pointer (some ⟨g, 0, none⟩)) (hg : Blk w g t cs)
    (hu : P.underlying ty = some d) (hd : (match d with | .struct _ | .array _ _ => true | _ => false) = true) (hi : (P.info? ty).map (·.size) = some cs.size) :
    (results fn tmps).run P w = .ok (.tuple #[.agg cs, tmps.getD q undef]) w := by
  have hp' : tmps[p]?.getD undef = .pointer (some ⟨g, 0, none⟩) := by simpa using hp
  simp [results, h, hp', asAddr, run_loadVar_row w g t ty cs (0, 0) d hg hu hd hi]
theorem Blk.set {w : World} {g : Nat} {t : TypeId} {cs : Array Value} (h : Blk w g t cs) (i : Nat) (u : Value) : Blk (w.setCell ⟨g, i, none⟩ u) g t (cs.setIfInBounds i u) := heap_setCell_same w g i cs t u h
theorem Blk.far {w : World} {g : Nat} {t : TypeId} {cs : Array Value} (h : Blk w g t cs) {p : Addr} (hp : g ≠ p.block) (u : Value) : Blk (w.setCell p u) g t cs := (Below.heap_setCell w p u g hp).trans h
/-- one result, a struct's variable -/
theorem results_row1 {P : Program} {fn : Func} {p : Tmp} {ty : TypeId} (h : fn.results = #[.cell p ty]) (tmps : Array Value) (w : World) (g : Nat) (t : TypeId) (cs : Array Value) (d : TypeDesc)
    (hp : tmps.getD p undef = .pointer (some ⟨g, 0, none⟩)) (hg : Blk w g t cs)
    (hu : P.underlying ty = some d) (hd : (match d with | .struct _ | .array _ _ => true | _ => false) = true) (hi : (P.info? ty).map (·.size) = some cs.size) :
    (results fn tmps).run P w = .ok (.agg cs) w := by
  have hp' : tmps[p]?.getD undef = .pointer (some ⟨g, 0, none⟩) := by simpa using hp
  simp [results, h, hp', asAddr, run_loadVar_row w g t ty cs (0, 0) d hg hu hd hi]
end Go.Proofs.Ytfpjpakjlhidkaa
