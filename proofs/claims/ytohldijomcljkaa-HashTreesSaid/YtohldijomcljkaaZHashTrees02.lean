/- Slices whose elements take k cells: what is owned, and an append of one. -/
import Derived.Test.YtohldijomcljkaaZHashTrees00
import Derived.Test.YtohldijomcljkaaProg
import Derived.WalkSpells
import Derived.WalkLawsBesides
import Derived.Deep.QuietTactic
import Derived.BigQuiet
import Derived.Test.YtohldijomcljkaaZHashTrees01
namespace Go.Proofs.Ytohldijomcljkaa
open Go.RowKit

structure ElemK (P : Program) (t e : TypeId) (z : Value) (k bytes : Nat) : Prop where
  ty : P.underlying t = some (.slice e)
  inf : (P.info? e).map (fun i => (i.zero, i.size, i.bytes)) = some (some z, k, bytes)
  one : z.cells.size = k
  pos : 0 < k
  low : bytes ≤ 512

theorem info_partsK {P : Program} {e : TypeId} {z : Value} {k bytes : Nat} (h : (P.info? e).map (fun i => (i.zero, i.size, i.bytes)) = some (some z, k, bytes)) :
    ∃ i, P.info? e = some i ∧ i.zero = some z ∧ i.size = k ∧ i.bytes = bytes := by
  cases hi : P.info? e with
  | none => simp [hi] at h
  | some i =>
    simp [hi] at h
    exact ⟨i, rfl, h.1, h.2.1, h.2.2⟩

/-- The slice v of the call's own memory: n elements of k cells, all cells in a row. -/
def OwnK (w : World) (B : Nat) (e : TypeId) (k : Nat) (v : Value) (n : Nat) (xs : List Value) : Prop := w.ownsRow B e k v n xs
theorem OwnK.nil (w : World) (B : Nat) (e : TypeId) (k : Nat) : OwnK w B e k (.slice none 0 0) 0 [] := World.ownsRow_nil w B e k
theorem OwnK.len {w : World} {B : Nat} {e : TypeId} {k : Nat} {v : Value} {n : Nat} {xs : List Value} (h : OwnK w B e k v n xs) : xs.length = n * k := h.1
theorem OwnK.alloc {w : World} {B : Nat} {e : TypeId} {k : Nat} {v : Value} {n : Nat} {xs : List Value} (h : OwnK w B e k v n xs) (o : Obj) : OwnK (w.alloc o) B e k v n xs := World.ownsRow.alloc h o
theorem OwnK.drewN {w : World} {B : Nat} {e : TypeId} {k : Nat} {v : Value} {n : Nat} {xs : List Value} (h : OwnK w B e k v n xs) (m : Nat) : OwnK (w.drewN m) B e k v n xs := h
theorem OwnK.mono {w : World} {B B' : Nat} {e : TypeId} {k : Nat} {v : Value} {n : Nat} {xs : List Value} (h : OwnK w B e k v n xs) (hB : B' ≤ B) : OwnK w B' e k v n xs := by
  obtain ⟨h0, h | ⟨g, cap, cur, hv, hg, r⟩⟩ := h
  · exact ⟨h0, .inl h⟩
  · exact ⟨h0, .inr ⟨g, cap, cur, hv, by omega, r⟩⟩
theorem OwnK.below {w w' : World} {B B' : Nat} {e : TypeId} {k : Nat} {v : Value} {n : Nat} {xs : List Value} (h : OwnK w B e k v n xs) (hb : Below B' w w') (hB : w.heap.size ≤ B') : OwnK w' B e k v n xs := by
  obtain ⟨h0, h | ⟨g, cap, cur, hv, hg, hh, r⟩⟩ := h
  · exact ⟨h0, .inl h⟩
  · refine ⟨h0, .inr ⟨g, cap, cur, hv, hg, ?_, r⟩⟩
    have hl : g < w.heap.size := by
      rcases Nat.lt_or_ge g w.heap.size with h' | h'
      · exact h'
      · simp [Array.getElem?_eq_none h'] at hh
    rw [hb.block g (by omega)]
    exact hh
/-- Which slice it is, and its cells. -/
theorem OwnK.out {w : World} {B : Nat} {e : TypeId} {k : Nat} {v : Value} {n : Nat} {xs : List Value} (h : OwnK w B e k v n xs) (hn : 0 < n) :
    ∃ g cap, v = .slice (some ⟨g, 0, none⟩) n cap ∧ B ≤ g ∧ g < w.heap.size ∧ n ≤ cap ∧ cap ≤ maxLen ∧ (∀ (j : Nat) u, xs[j]? = some u → w.cell? ⟨g, j, none⟩ = some u) ∧ ∃ cur, w.heap[g]? = some (.cells cur e (0, 0)) ∧ cur.size = cap * k ∧ cur.toList.take (n * k) = xs := by
  have hc := fun g => World.ownsRow.cells (g := g) h
  obtain ⟨_, h⟩ := h
  rcases h with ⟨rfl, h0⟩ | ⟨g, cap, cur, rfl, hg, hh, hn, hm, hs, ht⟩
  · omega
  · refine ⟨g, cap, rfl, hg, ?_, hn, hm, ?_, cur, hh, hs, ht⟩
    · rcases Nat.lt_or_ge g w.heap.size with h' | h'
      · exact h'
      · simp [Array.getElem?_eq_none h'] at hh
    · intro j u hu
      have := hc g rfl j u hu
      simpa [Addr.add_lit] using this
section
variable {P : Program} {w : World}
/-- 's = append(s, x)', x an element of k cells that lies in a new block of its own. -/
theorem wpList_pushK {ops : Array Oper} {rest : List Oper} {o : Oper} {a : Act} {Q : Exit → Act → World → Prop} (hgd : o.guard = none) (s x : Operand) (t : TypeId)
    (ho : o.op = .call { callee := .builtin .append, args := #[s, x], argTypes := #[t, t] })
    (B : Nat) (e : TypeId) (z : Value) (k bytes : Nat) (F : ElemK P t e z k bytes)
    (v : Value) (n : Nat) (xs : List Value) (hs : a.eval s = v) (hown : OwnK w B e k v n xs)
    (N : Nat) (ys : List Value) (hx : a.eval x = .slice (some ⟨N, 0, none⟩) 1 1) (hl : ys.length = k) (hu : ∀ (j : Nat) u, ys[j]? = some u → w.cell? ⟨N, j, none⟩ = some u) (h1 : ∀ u ∈ ys, u.oneCell' = true)
    (hn : n < 137438953472) (hB : B ≤ w.heap.size)
    (h : ∀ v' w', OwnK w' B e k v' (n + 1) (xs ++ ys) → Below B w w' → wpList P ops Q rest (a.put o.dst v') w') : wpList P ops Q (o :: rest) a w := by
  obtain ⟨i, hi, hz, hsz, hby⟩ := info_partsK F.inf
  have low := F.low
  refine wpList_append_own w hgd s x t ho B e i z k bytes F.ty hi hz hsz hby F.one F.pos v n xs hs hown ⟨N, 0, none⟩ 1 1 ys hx (by rw [hl, Nat.one_mul]) (fun j u hj => by rw [Addr.add_lit, Nat.zero_add]; exact hu j u hj) h1 ?_ ?_ hB ?_
  · unfold maxLen; omega
  · have : (n + 1) * bytes ≤ (n + 1) * 512 := Nat.mul_le_mul_left _ low
    omega
  · intro v' w' h2 h3 _
    refine h v' w' h2 ?_
    refine (Below.refl B w).grown h3 hB ?_
    intro k hk
    exact (World.ownsRow.lt hown k hk).1
end
theorem cells_new {w : World} {cs : List Value} {e : TypeId} {N : Nat} (hN : N = w.heap.size) : ∀ (j : Nat) u, cs[j]? = some u → (w.alloc (.cells cs.toArray e)).cell? ⟨N, j, none⟩ = some u := by
  intro j u h
  subst hN
  rw [cell_of_row _ _ _ _ _ _ (heap_alloc_new w _)]
  simpa using h

/-- A block that is known whole. -/
def Blk (w : World) (g : Nat) (t : TypeId) (cs : Array Value) : Prop := w.heap[g]? = some (.cells cs t (0, 0))
theorem Blk.lt {w : World} {g : Nat} {t : TypeId} {cs : Array Value} (h : Blk w g t cs) : g < w.heap.size := by
  rcases Nat.lt_or_ge g w.heap.size with hlt | hge
  · exact hlt
  · unfold Blk at h; rw [Array.getElem?_eq_none hge] at h; cases h
theorem Blk.new (w : World) (t : TypeId) (cs : Array Value) : Blk (w.alloc (.cells cs t)) w.heap.size t cs := heap_alloc_new w _
theorem Blk.below {w w' : World} {g : Nat} {t : TypeId} {cs : Array Value} {B : Nat} (h : Blk w g t cs) (hb : Below B w w') (hg : g < B) : Blk w' g t cs := (hb.block g hg).trans h
theorem Blk.alloc {w : World} {g : Nat} {t : TypeId} {cs : Array Value} (h : Blk w g t cs) (o : Obj) : Blk (w.alloc o) g t cs := (Below.heap_alloc w o g h.lt).trans h
theorem Blk.drewN {w : World} {g : Nat} {t : TypeId} {cs : Array Value} (h : Blk w g t cs) (n : Nat) : Blk (w.drewN n) g t cs := h
theorem Blk.cell {w : World} {g : Nat} {t : TypeId} {cs : Array Value} (h : Blk w g t cs) (i : Nat) : w.cell? ⟨g, i, none⟩ = cs[i]? := cell_of_row w g i cs t (0, 0) h
theorem Blk.frozen {w : World} {g : Nat} {t : TypeId} {cs : Array Value} (h : Blk w g t cs) (i : Nat) : w.frozen? ⟨g, i, none⟩ = false := frozen_of_row w g i cs t h
/-- A store of a whole struct or array into a variable of its own. -/
theorem wpList_store_blk {P : Program} {w : World} {ops : Array Oper} {rest : List Oper} {o : Oper} {a : Act} {Q : Exit → Act → World → Prop} (hgd : o.guard = none) (ty : TypeId) (x y : Operand) (ho : o.op = .store ty x y)
    (g : Nat) (cells : Array Value) (hx : a.eval x = .pointer (some ⟨g, 0, none⟩)) (hy : a.eval y = .agg cells)
    (t : TypeId) (old : Array Value) (hold : Blk w g t old) (hi : (P.info? ty).map (·.size) = some cells.size)
    (hs : old.size = cells.size) (h1 : cells.toList.all (·.oneCell') = true)
    (h : ∀ w2, Blk w2 g t cells → (∀ B, B ≤ g → Below B w w2) → (∀ i, i ≠ g → w2.heap[i]? = w.heap[i]?) → w2.heap.size = w.heap.size → wpList P ops Q rest (a.put o.dst undef) w2) : wpList P ops Q (o :: rest) a w := by
  refine wpList_store_row hgd ty x y ho g cells hx hy t old hold hi hs (by rw [← Array.all_toList]; exact h1) ?_
  refine h _ ?_ ?_ ?_ ?_
  · exact setRow_heap w g old cells t _ hold
  · intro B hB
    exact ⟨rfl, rfl, rfl, by simp, fun i hi => setRow_other w g i cells (by omega)⟩
  · intro i hi
    exact setRow_other w g i cells hi
  · simp
/-- two results, the first of them a struct's variable -/
theorem results_row2 {P : Program} {fn : Func} {p q : Tmp} {ty : TypeId} (h : fn.results = #[.cell p ty, .tmp q]) (tmps : Array Value) (w : World) (g : Nat) (t : TypeId) (cs : Array Value) (d : TypeDesc)
    (hp : tmps.getD p undef = .pointer (some ⟨g, 0, none⟩)) (hg : Blk w g t cs)
    (hu : P.underlying ty = some d) (hd : (match d with | .struct _ | .array _ _ => true | _ => false) = true) (hi : (P.info? ty).map (·.size) = some cs.size) :
    (results fn tmps).run P w = .ok (.tuple #[.agg cs, tmps.getD q undef]) w := by
  have hp' : tmps[p]?.getD undef = .pointer (some ⟨g, 0, none⟩) := by simpa using hp
  simp [results, h, hp', asAddr, run_loadVar_row w g t ty cs (0, 0) d hg hu hd hi]
theorem Blk.set {w : World} {g : Nat} {t : TypeId} {cs : Array Value} (h : Blk w g t cs) (i : Nat) (u : Value) : Blk (w.setCell ⟨g, i, none⟩ u) g t (cs.setIfInBounds i u) := heap_setCell_same w g i cs t u h
theorem Blk.far {w : World} {g : Nat} {t : TypeId} {cs : Array Value} (h : Blk w g t cs) {p : Addr} (hp : g ≠ p.block) (u : Value) : Blk (w.setCell p u) g t cs := (Below.heap_setCell w p u g hp).trans h
/-- one result, a struct's variable -/
theorem results_row1 {P : Program} {fn : Func} {p : Tmp} {ty : TypeId} (h : fn.results = #[.cell p ty]) (tmps : Array Value) (w : World) (g : Nat) (t : TypeId) (cs : Array Value) (d : TypeDesc)
    (hp : tmps.getD p undef = .pointer (some ⟨g, 0, none⟩)) (hg : Blk w g t cs)
    (hu : P.underlying ty = some d) (hd : (match d with | .struct _ | .array _ _ => true | _ => false) = true) (hi : (P.info? ty).map (·.size) = some cs.size) :
    (results fn tmps).run P w = .ok (.agg cs) w := by
  have hp' : tmps[p]?.getD undef = .pointer (some ⟨g, 0, none⟩) := by simpa using hp
  simp [results, h, hp', asAddr, run_loadVar_row w g t ty cs (0, 0) d hg hu hd hi]
end Go.Proofs.Ytohldijomcljkaa
/- Walks: the reference's Same of two lists of numbers. -/
namespace Go.Proofs.Ytohldijomcljkaa
open Go.RowKit
theorem ivs_len' (k : IntKind) (L : List Int) : (ivs k L).length = L.length := by simp [ivs]
/-- Numbers that are read, taken apart. -/
theorem Rd.icases {w : World} {v : Value} {kd : IntKind} {L : List Int} (h : Rd w v (ivs kd L)) :
    (∃ a cap, v = .slice a 0 cap ∧ L = []) ∨ ∃ b off cap, 0 < L.length ∧ L.length ≤ cap ∧ cap ≤ maxLen ∧ v = .slice (some ⟨b, off, none⟩) L.length cap ∧ b < w.heap.size ∧
      ∀ i, i < L.length → w.cell? ⟨b, off + i, none⟩ = some (.int kd (L.getD i 0)) := by
  have hlt := h.lt
  obtain ⟨a, cap, rfl, h1, h2, h3⟩ := h
  by_cases hL : L = []
  · subst hL; exact .inl ⟨a, cap, rfl, rfl⟩
  · right
    have hpos : 0 < L.length := List.length_pos_iff.2 hL
    have hne : ivs kd L ≠ [] := by intro h; apply hL; simpa [ivs] using h
    rcases h3 with h | ⟨b, off, rfl, hc⟩
    · exact absurd h.1 hne
    · rcases hlt with h | ⟨b', off', cap', he, hb⟩
      · exact absurd h hne
      · simp only [Value.slice.injEq, Option.some.injEq, Addr.mk.injEq] at he
        refine ⟨b, off, cap, hpos, by simpa [ivs] using h1, h2, by simp [ivs], by omega, ?_⟩
        intro i hi
        refine hc i _ ?_
        simp [ivs, hi]
theorem itake_ext {L M : List Int} {i : Nat} (hi : i < L.length) (hm : i < M.length) (h : L.take i = M.take i) (he : L.getD i 0 = M.getD i 0) : L.take (i + 1) = M.take (i + 1) := by
  rw [List.take_succ_eq_append_getElem hi, List.take_succ_eq_append_getElem hm, h]
  simp only [List.getD_eq_getElem?_getD, List.getElem?_eq_getElem hi, List.getElem?_eq_getElem hm, Option.getD_some] at he
  rw [he]
theorem igetD_ne {L M : List Int} {i : Nat} (he : L.getD i 0 ≠ M.getD i 0) : L ≠ M := by
  intro h; subst h; exact he rfl
set_option maxRecDepth 100000 in
set_option maxHeartbeats 1000000 in
theorem sameI_any (v v' : Value) (L M : List Int) (w : World) (h : Rd w v (ivs .i64 L)) (h' : Rd w v' (ivs .i64 M)) :
    Calls Try.prog 38 #[v, v'] w fun e w' => e = .returned (.bool (decide (L = M))) ∧ ∃ n, w' = w.drewN n := by
  by_cases hlen : L.length = M.length
  · rcases h.icases with ⟨a, cap, rfl, rfl⟩ | ⟨b, off, cap, hpos, hc1, hc2, rfl, hb, hcell⟩
    · have : M = [] := List.eq_nil_of_length_eq_zero hlen.symm
      subst this
      rcases h'.icases with ⟨a', cap', rfl, _⟩ | ⟨b', off', cap', hpos', _⟩
      · clear h h' hlen
        go_enter Try.func38, Try.ntmps38
        go_wp2
        refine wp_loop_rounds 1 ?_
        rw [rounds_succ]
        go_wp2
        go_ret
        exact ⟨rfl, 0, rfl⟩
      · simp at hpos'
    · rcases h'.icases with ⟨a', cap', rfl, rfl⟩ | ⟨b', off', cap', hpos', hc1', hc2', rfl, hb', hcell'⟩
      · simp only [List.length_nil] at hlen; omega
      · obtain ⟨k, hk⟩ : ∃ k, k = L.length := ⟨_, rfl⟩
        rw [← hlen, ← hk] at hpos' hc1' hcell' ⊢
        rw [← hk] at hpos hc1 hcell
        have HK := Lib.hid hk
        have HM : Hid (M.length = k) := Lib.hid (by omega)
        have HC := Lib.hid hcell
        have HC' := Lib.hid hcell'
        have hkm : k ≤ 9223372036854775807 := by unfold maxLen at hc2; omega
        clear hlen hk h h' hcell hcell'
        go_enter Try.func38, Try.ntmps38
        go_wp2
        go_loopw [5] (fun i wr => ∃ i' n : Nat, i' ≤ k ∧ L.take i' = M.take i' ∧ i = .int .i64 i' ∧ wr = w.drewN n) (fun i _ => k - (intOf i).toNat)
        case atStart => exact ⟨0, 0, by omega, rfl, rfl, rfl⟩
        case round =>
          obtain ⟨i, n, hi, he, rfl, rfl⟩ := hrel
          have H := Lib.hid he; clear he
          by_cases hlt : i < k
          · have g1 := HC.out i hlt
            have g2 := HC'.out i hlt
            obtain ⟨x, hx⟩ : ∃ x, L.getD i 0 = x := ⟨_, rfl⟩
            obtain ⟨y, hy⟩ : ∃ y, M.getD i 0 = y := ⟨_, rfl⟩
            rw [hx] at g1
            rw [hy] at g2
            have HX := Lib.hid hx
            have HY := Lib.hid hy
            clear hx hy
            by_cases hxy : x = y
            · subst hxy
              go_wp2
              go_quiet (fail)
              go_wp2
              go_roundw
              case rel => exact ⟨i + 1, _, by omega, itake_ext (by have := HK.out; omega) (by have := HM.out; omega) H.out (HX.out.trans HY.out.symm), by go_num, rfl⟩
              case measure => simp [intOf]; omega
            · have hxy' : (x != y) = true := by simp [hxy]
              go_wp2
              go_quiet (fail)
              go_wp2
              go_ret
              exact ⟨ret_bool (by rw [decide_eq_false]; exact igetD_ne (by rw [HX.out, HY.out]; exact hxy)), _, World.drewN_drewN _ _ _⟩
          · obtain rfl : i = k := by omega
            go_wp2
            go_ret
            have e := H.out
            rw [List.take_of_length_le (by have := HK.out; omega), List.take_of_length_le (by have := HM.out; omega)] at e
            exact ⟨ret_bool (by rw [decide_eq_true]; exact e), _, rfl⟩
  · have hne : ((L.length : Int) != (M.length : Int)) = true := by simp; omega
    obtain ⟨a, cap, rfl, _⟩ := h
    obtain ⟨a', cap', rfl, _⟩ := h'
    rw [ivs_len', ivs_len']
    go_enter Try.func38, Try.ntmps38
    go_wp2
    go_ret
    exact ⟨ret_bool (by rw [decide_eq_false]; intro h; apply hlen; rw [h]), 0, rfl⟩
theorem Rd.get {w : World} {a : Option Addr} {n cap r : Nat} {xs : List Value} {u : Value} (h : Rd w (.slice a n cap) xs) (hu : xs[r]? = some u) : ∃ b off, a = some ⟨b, off, none⟩ ∧ b < w.heap.size ∧ w.cell? ⟨b, off + r, none⟩ = some u := by
  have hlt := h.lt
  obtain ⟨a', cap', he, h1, h2, ⟨h0, _⟩ | ⟨b, off, rfl, hc⟩⟩ := h
  · rw [h0] at hu; simp at hu
  · simp only [Value.slice.injEq] at he
    obtain ⟨rfl, _, _⟩ := he
    have := hc r u hu
    exact ⟨b, off, rfl, World.block_lt_of_cell? w _ this, this⟩
end Go.Proofs.Ytohldijomcljkaa
/- Nodes of a tree as data: what their values read as; which may be. -/
namespace Go.Proofs.Ytohldijomcljkaa
open Go.RowKit WireM
set_option linter.unusedVariables false
structure LeafD where
  box : List Nat
  sign : List Nat
  ident : List Nat
  source : Nat
  par : List Nat
  sig : List Nat
structure ParD where
  box : List Nat
  hash : List Nat
  late : List Int
structure NodeD where
  kind : Nat
  leaf : LeafD
  par : ParD
/-- which leaf may be, by its lengths -/
def rlB (n1 n2 n3 s n4 n5 : Nat) : Bool := decide (n1 = 32 ∧ n2 = 32 ∧ n5 = 64 ∧ 1 ≤ n3 ∧ n3 ≤ 64 ∧ 1 ≤ s ∧ s ≤ 3 ∧ (n4 = 0 ∨ (s = 3 ∧ n4 = 32)))
def nlB (n1 n2 n3 s n4 n5 : Nat) : Bool := decide (s = 0 ∧ n1 + n2 + n3 + n4 + n5 = 0)
def npB (n1 n2 n3 : Nat) : Bool := decide (n1 + n2 + n3 = 0)
end Go.Proofs.Ytohldijomcljkaa
/- Walks: node.rightLeaf, noLeaf, noParent, rightParent, right. -/
namespace Go.Proofs.Ytohldijomcljkaa
open Go.RowKit WireM
set_option linter.unusedVariables false
theorem ret_dec {p : Prop} [Decidable p] {b : Bool} (h : b = decide p) : Ending.returned (.bool b) = .returned (.bool (decide p)) := by rw [h]
set_option maxRecDepth 100000 in
set_option maxHeartbeats 2000000 in
theorem rightLeaf_any (a1 a2 a3 a4 a5 : Option Addr) (n1 n2 n3 n4 n5 c1 c2 c3 c4 c5 s : Nat) (w : World) :
    Calls Try.prog 135 #[.agg #[.slice a1 n1 c1, .slice a2 n2 c2, .slice a3 n3 c3, .int .u8 (s : Nat), .slice a4 n4 c4, .slice a5 n5 c5]] w fun e w' => e = .returned (.bool (rlB n1 n2 n3 s n4 n5)) ∧ Below w.heap.size w w' := by
  by_cases k0 : n1 ≠ 32
  · have HE : Hid (rlB n1 n2 n3 s n4 n5 = false) := Lib.hid (by rw [rlB, decide_eq_false_iff_not]; omega)
    have t0 : ((n1 : Int) != 32) = true := by rw [bne_iff_ne]; omega
    clear k0
    go_enter Try.func135, Try.ntmps135
    go_wp2_with fail
    go_ret
    exact ⟨ret_bool HE.out.symm, (Below.refl _ _).alloc (Nat.le_refl _) _⟩
  · have t0 : ((n1 : Int) != 32) = false := by rw [bne_eq_false_iff_eq]; omega
    by_cases k1 : n2 ≠ 32
    · have HE : Hid (rlB n1 n2 n3 s n4 n5 = false) := Lib.hid (by rw [rlB, decide_eq_false_iff_not]; omega)
      have t1 : ((n2 : Int) != 32) = true := by rw [bne_iff_ne]; omega
      clear k1
      go_enter Try.func135, Try.ntmps135
      go_wp2_with fail
      go_ret
      exact ⟨ret_bool HE.out.symm, (Below.refl _ _).alloc (Nat.le_refl _) _⟩
    · have t1 : ((n2 : Int) != 32) = false := by rw [bne_eq_false_iff_eq]; omega
      by_cases k2 : n5 ≠ 64
      · have HE : Hid (rlB n1 n2 n3 s n4 n5 = false) := Lib.hid (by rw [rlB, decide_eq_false_iff_not]; omega)
        have t2 : ((n5 : Int) != 64) = true := by rw [bne_iff_ne]; omega
        clear k2
        go_enter Try.func135, Try.ntmps135
        go_wp2_with fail
        go_ret
        exact ⟨ret_bool HE.out.symm, (Below.refl _ _).alloc (Nat.le_refl _) _⟩
      · have t2 : ((n5 : Int) != 64) = false := by rw [bne_eq_false_iff_eq]; omega
        by_cases k3 : n3 < 1
        · have HE : Hid (rlB n1 n2 n3 s n4 n5 = false) := Lib.hid (by rw [rlB, decide_eq_false_iff_not]; omega)
          have t3 : decide ((n3 : Int) < 1) = true := by rw [decide_eq_true_iff]; omega
          clear k3
          go_enter Try.func135, Try.ntmps135
          go_wp2_with fail
          go_ret
          exact ⟨ret_bool HE.out.symm, (Below.refl _ _).alloc (Nat.le_refl _) _⟩
        · have t3 : decide ((n3 : Int) < 1) = false := by rw [decide_eq_false_iff_not]; omega
          by_cases k4 : 64 < n3
          · have HE : Hid (rlB n1 n2 n3 s n4 n5 = false) := Lib.hid (by rw [rlB, decide_eq_false_iff_not]; omega)
            have t4 : decide (64 < (n3 : Int)) = true := by rw [decide_eq_true_iff]; omega
            clear k4
            go_enter Try.func135, Try.ntmps135
            go_wp2_with fail
            go_ret
            exact ⟨ret_bool HE.out.symm, (Below.refl _ _).alloc (Nat.le_refl _) _⟩
          · have t4 : decide (64 < (n3 : Int)) = false := by rw [decide_eq_false_iff_not]; omega
            by_cases k5 : s < 1
            · have HE : Hid (rlB n1 n2 n3 s n4 n5 = false) := Lib.hid (by rw [rlB, decide_eq_false_iff_not]; omega)
              have t5 : decide ((s : Int) < 1) = true := by rw [decide_eq_true_iff]; omega
              clear k5
              go_enter Try.func135, Try.ntmps135
              go_wp2_with fail
              go_ret
              exact ⟨ret_bool HE.out.symm, (Below.refl _ _).alloc (Nat.le_refl _) _⟩
            · have t5 : decide ((s : Int) < 1) = false := by rw [decide_eq_false_iff_not]; omega
              by_cases k6 : 3 < s
              · have HE : Hid (rlB n1 n2 n3 s n4 n5 = false) := Lib.hid (by rw [rlB, decide_eq_false_iff_not]; omega)
                have t6 : decide (3 < (s : Int)) = true := by rw [decide_eq_true_iff]; omega
                clear k6
                go_enter Try.func135, Try.ntmps135
                go_wp2_with fail
                go_ret
                exact ⟨ret_bool HE.out.symm, (Below.refl _ _).alloc (Nat.le_refl _) _⟩
              · have t6 : decide (3 < (s : Int)) = false := by rw [decide_eq_false_iff_not]; omega
                by_cases k7 : n4 = 0
                · have HE : Hid (rlB n1 n2 n3 s n4 n5 = true) := Lib.hid (by rw [rlB, decide_eq_true_iff]; omega)
                  have t7 : ((n4 : Int) == 0) = true := by rw [beq_iff_eq]; omega
                  clear k0 k1 k2 k3 k4 k5 k6 k7
                  go_enter Try.func135, Try.ntmps135
                  go_wp2_with fail
                  go_ret
                  exact ⟨ret_bool HE.out.symm, (Below.refl _ _).alloc (Nat.le_refl _) _⟩
                · have t7 : ((n4 : Int) == 0) = false := by rw [beq_eq_false_iff_ne]; omega
                  by_cases k8 : s = 3
                  · have t8 : ((s : Int) == 3) = true := by rw [beq_iff_eq]; omega
                    by_cases k9 : n4 = 32
                    · have HE : Hid (rlB n1 n2 n3 s n4 n5 = true) := Lib.hid (by rw [rlB, decide_eq_true_iff]; omega)
                      have t9 : ((n4 : Int) == 32) = true := by rw [beq_iff_eq]; omega
                      clear k0 k1 k2 k3 k4 k5 k6 k7 k8 k9
                      go_enter Try.func135, Try.ntmps135
                      go_wp2_with fail
                      go_ret
                      exact ⟨ret_bool HE.out.symm, (Below.refl _ _).alloc (Nat.le_refl _) _⟩
                    · have HE : Hid (rlB n1 n2 n3 s n4 n5 = false) := Lib.hid (by rw [rlB, decide_eq_false_iff_not]; omega)
                      have t9 : ((n4 : Int) == 32) = false := by rw [beq_eq_false_iff_ne]; omega
                      clear k0 k1 k2 k3 k4 k5 k6 k7 k8 k9
                      go_enter Try.func135, Try.ntmps135
                      go_wp2_with fail
                      go_ret
                      exact ⟨ret_bool HE.out.symm, (Below.refl _ _).alloc (Nat.le_refl _) _⟩
                  · have HE : Hid (rlB n1 n2 n3 s n4 n5 = false) := Lib.hid (by rw [rlB, decide_eq_false_iff_not]; omega)
                    have t8 : ((s : Int) == 3) = false := by rw [beq_eq_false_iff_ne]; omega
                    clear k0 k1 k2 k3 k4 k5 k6 k7 k8
                    go_enter Try.func135, Try.ntmps135
                    go_wp2_with fail
                    go_ret
                    exact ⟨ret_bool HE.out.symm, (Below.refl _ _).alloc (Nat.le_refl _) _⟩
set_option maxRecDepth 100000 in
set_option maxHeartbeats 2000000 in
theorem noLeaf_any (a1 a2 a3 a4 a5 : Option Addr) (n1 n2 n3 n4 n5 c1 c2 c3 c4 c5 s : Nat) (h1 : n1 ≤ maxLen) (hs : n1 + n2 + n3 + n4 + n5 < 4611686018427387904) (w : World) :
    Calls Try.prog 133 #[.agg #[.slice a1 n1 c1, .slice a2 n2 c2, .slice a3 n3 c3, .int .u8 (s : Nat), .slice a4 n4 c4, .slice a5 n5 c5]] w fun e w' => e = .returned (.bool (nlB n1 n2 n3 s n4 n5)) ∧ Below w.heap.size w w' := by
  by_cases k0 : s = 0
  · have t0 : ((s : Int) == 0) = true := by rw [beq_iff_eq]; omega
    by_cases k1 : n1 + n2 + n3 + n4 + n5 = 0
    · have HE : Hid (nlB n1 n2 n3 s n4 n5 = true) := Lib.hid (by rw [nlB, decide_eq_true_iff]; omega)
      have t1 : ((n1 : Int) + (n2 : Int) + (n3 : Int) + (n4 : Int) + (n5 : Int) == 0) = true := by rw [beq_iff_eq]; omega
      clear k0 k1 h1
      go_enter Try.func133, Try.ntmps133
      go_wp2_with fail
      go_ret
      exact ⟨ret_bool HE.out.symm, (Below.refl _ _).alloc (Nat.le_refl _) _⟩
    · have HE : Hid (nlB n1 n2 n3 s n4 n5 = false) := Lib.hid (by rw [nlB, decide_eq_false_iff_not]; omega)
      have t1 : ((n1 : Int) + (n2 : Int) + (n3 : Int) + (n4 : Int) + (n5 : Int) == 0) = false := by rw [beq_eq_false_iff_ne]; omega
      clear k0 k1 h1
      go_enter Try.func133, Try.ntmps133
      go_wp2_with fail
      go_ret
      exact ⟨ret_bool HE.out.symm, (Below.refl _ _).alloc (Nat.le_refl _) _⟩
  · have HE : Hid (nlB n1 n2 n3 s n4 n5 = false) := Lib.hid (by rw [nlB, decide_eq_false_iff_not]; omega)
    have t0 : ((s : Int) == 0) = false := by rw [beq_eq_false_iff_ne]; omega
    clear k0 h1
    go_enter Try.func133, Try.ntmps133
    go_wp2_with fail
    go_ret
    exact ⟨ret_bool HE.out.symm, (Below.refl _ _).alloc (Nat.le_refl _) _⟩
set_option maxRecDepth 100000 in
set_option maxHeartbeats 2000000 in
theorem noParent_any (a1 a2 a3 : Option Addr) (n1 n2 n3 c1 c2 c3 : Nat) (hs : n1 + n2 + n3 < 4611686018427387904) (w : World) :
    Calls Try.prog 134 #[.agg #[.slice a1 n1 c1, .slice a2 n2 c2, .slice a3 n3 c3]] w fun e w' => e = .returned (.bool (npB n1 n2 n3)) ∧ Below w.heap.size w w' := by
  by_cases k1 : n1 + n2 + n3 = 0
  · have HE : Hid (npB n1 n2 n3 = true) := Lib.hid (by rw [npB, decide_eq_true_iff]; omega)
    have t1 : ((n1 : Int) + (n2 : Int) + (n3 : Int) == 0) = true := by rw [beq_iff_eq]; omega
    clear k1
    go_enter Try.func134, Try.ntmps134
    go_wp2_with fail
    go_ret
    exact ⟨ret_bool HE.out.symm, (Below.refl _ _).alloc (Nat.le_refl _) _⟩
  · have HE : Hid (npB n1 n2 n3 = false) := Lib.hid (by rw [npB, decide_eq_false_iff_not]; omega)
    have t1 : ((n1 : Int) + (n2 : Int) + (n3 : Int) == 0) = false := by rw [beq_eq_false_iff_ne]; omega
    clear k1
    go_enter Try.func134, Try.ntmps134
    go_wp2_with fail
    go_ret
    exact ⟨ret_bool HE.out.symm, (Below.refl _ _).alloc (Nat.le_refl _) _⟩
end Go.Proofs.Ytohldijomcljkaa
