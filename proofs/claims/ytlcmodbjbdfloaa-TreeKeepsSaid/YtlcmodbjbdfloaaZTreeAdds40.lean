/- Plain: a tree in new memory, behind which blank nodes were laid, and of which one node's late list is being replaced. -/
import Derived.Test.YtlcmodbjbdfloaaZTreeAdds38
import Derived.Test.YtlcmodbjbdfloaaZTreeAdds39
import Derived.Test.YtlcmodbjbdfloaaZTreeAdds24
import Derived.Test.YtlcmodbjbdfloaaZTreeAdds23
import Derived.Test.YtlcmodbjbdfloaaZTreeAdds36
import Derived.Test.YtlcmodbjbdfloaaZTreeAdds35
import Derived.Test.YtlcmodbjbdfloaaZTreeAdds20
import Derived.Test.YtlcmodbjbdfloaaZTreeAdds07
namespace Go.Proofs.Ytlcmodbjbdfloaa
open Go.RowKit WalkM WireM
set_option linter.unusedVariables false
def zeroNode : Value := .agg #[.int .u8 0, .slice none 0 0, .slice none 0 0, .slice none 0 0, .int .u8 0, .slice none 0 0, .slice none 0 0, .slice none 0 0, .slice none 0 0, .slice none 0 0]
def zerosN (k : Nat) : List Value := (Builtin.zeroCells zeroNode.cells k).toList
theorem zerosN_get (k j : Nat) : (zerosN k)[j]? = if j < k * 10 then some (zeroNode.cells[j % 10]!) else none := by
  have e : zeroNode.cells.size = 10 := by kernel_rfl
  unfold zerosN Builtin.zeroCells
  rw [e, Array.toList_map, List.getElem?_map, Array.toList_range]
  by_cases h : j < k * 10
  · rw [if_pos h, List.getElem?_range h]; rfl
  · rw [if_neg h, List.getElem?_eq_none (by rw [List.length_range]; omega)]; rfl
theorem zerosN_len (k : Nat) : (zerosN k).length = 10 * k := by
  have e : zeroNode.cells.size = 10 := by kernel_rfl
  unfold zerosN
  rw [Array.length_toList, size_zeroCells, e, Nat.mul_comm]
theorem zerosN_one (k : Nat) : ∀ u ∈ zerosN k, u.oneCell' = true := by
  intro u hu
  obtain ⟨j, hj, rfl⟩ := List.getElem_of_mem hu
  have h := zerosN_get k j
  rw [List.getElem?_eq_getElem hj] at h
  split at h
  · simp only [Option.some.injEq] at h
    rw [h]
    have : j % 10 < 10 := Nat.mod_lt _ (by omega)
    obtain ⟨m, hm⟩ : ∃ m, m = j % 10 := ⟨_, rfl⟩
    rw [← hm] at this ⊢
    match m, this with
    | 0, _ => rfl
    | 1, _ => rfl
    | 2, _ => rfl
    | 3, _ => rfl
    | 4, _ => rfl
    | 5, _ => rfl
    | 6, _ => rfl
    | 7, _ => rfl
    | 8, _ => rfl
    | 9, _ => rfl
  · cases h
def blankL : List Value := [.int .u8 0, .slice none 0 0, .slice none 0 0, .slice none 0 0, .int .u8 0, .slice none 0 0, .slice none 0 0, .slice none 0 0, .slice none 0 0, .slice none 0 0]
theorem cellsAt_zeros {xs : List Value} {n k j : Nat} (h : xs.length = 10 * n) (hj : n ≤ j) (hk : j < n + k) : cellsAt (xs ++ zerosN k) j = blankL := by
  apply List.ext_getElem?
  intro i
  rw [cellsAt_get?]
  by_cases hi : i < 10
  · rw [if_pos hi, List.getElem?_append_right (by omega), zerosN_get, if_pos (by omega)]
    have e : (10 * j + i - xs.length) % 10 = i := by omega
    rw [e]
    match i, hi with
    | 0, _ => rfl
    | 1, _ => rfl
    | 2, _ => rfl
    | 3, _ => rfl
    | 4, _ => rfl
    | 5, _ => rfl
    | 6, _ => rfl
    | 7, _ => rfl
    | 8, _ => rfl
    | 9, _ => rfl
  · rw [if_neg hi, List.getElem?_eq_none (show blankL.length ≤ i by show 10 ≤ i; omega)]
/-- blank nodes behind a tree -/
theorem treeF_zeros {w w' : World} {B : Nat} {v v' : Value} {t : List NodeD} {k : Nat} {xs : List Value} (h : OwnK w B 45 10 v t.length xs) (hn : NodesO w B xs t t.length) (hg : w.grownBy w' v.ownBlock) (h' : OwnK w' B 45 10 v' (t.length + k) (xs ++ zerosN k)) :
    TreeF w' B v' (t.length + k) (nd t) := by
  have hn' := hn.grown h hg
  have hl := hn.1
  have late0 : ∀ j, t.length ≤ j → j < t.length + k → lateV (xs ++ zerosN k) j = .slice none 0 0 := fun j h1 h2 => by unfold lateV; rw [cellsAt_zeros hl h1 h2]; rfl
  have lateO : ∀ j, j < t.length → lateV (xs ++ zerosN k) j = lateV xs j := fun j h1 => by unfold lateV; rw [cellsAt_old hl h1]
  refine ⟨_, h', by rw [List.length_append, hl, zerosN_len]; omega, fun j hj => ?_, fun j i hji hi => ?_⟩
  · by_cases e : j < t.length
    · rw [cellsAt_old hl e]; exact hn'.2.1 j e
    · rw [cellsAt_zeros hl (by omega) hj]
      have : nd t j = noNodeD := by unfold nd; rw [List.getD_eq_getElem?_getD, List.getElem?_eq_none (by omega)]; rfl
      rw [this]
      exact noNode_o w' B
  · by_cases e : i < t.length
    · rw [lateO j (by omega), lateO i e]; exact hn'.2.2 j i hji e
    · intro g h1 h2
      rw [late0 i (by omega) hi] at h2
      simp [Value.ownBlock] at h2
/-- 'append(s, make([]T, 0)...)' -/
theorem run_app_zeros0 {P : Program} {w : World} (t tn ty e : TypeId) (z : Value) (kc bytes : Nat) (F : ElemK P t e z kc bytes) (kn : IntKind) (htn : P.underlying tn = some (.int kn)) (g n cap : Nat) (hn : n ≤ cap) :
    (Builtin.append_ #[t, tn] ty #[.slice (some ⟨g, 0, none⟩) n cap, .int .i64 0]).run P w = .ok (.slice (some ⟨g, 0, none⟩) n cap) w := by
  obtain ⟨i, hi, hz, hsz, hby⟩ := info_partsK F.inf
  have ht := F.ty
  have hw : IntKind.i64.wrap (0 : Int) = 0 := by rw [IntKind.wrap_i64]; omega
  simp [Builtin.append_, run_underlying ht, run_underlying htn, sizeOf, typeInfo, zeroValue, hi, hz, asInt, asIntOf, hw, hn, storeCells]
/-- blank nodes are laid behind a tree that the call owns -/
theorem run_zeros {w : World} {B : Nat} {v : Value} {t : List NodeD} (h : TreeO w B v t) (hp : 0 < t.length) (hn : t.length ≤ 1000000) (k : Nat) (hk : k ≤ 1000000) (hB : B ≤ w.heap.size) :
    ∃ v' w', (Builtin.append_ #[22, 3] 22 #[v, .int .i64 (k : Nat)]).run Try.prog w = .ok v' w' ∧ TreeF w' B v' (t.length + k) (nd t) ∧ w.grownBy w' v.ownBlock := by
  obtain ⟨xs, h1, h2⟩ := h
  by_cases h0 : k = 0
  · subst h0
    obtain ⟨g, cap, rfl, hB, hlt, hn, hm, -⟩ := h1.out hp
    exact ⟨_, w, run_app_zeros0 _ _ _ _ _ _ _ treesE .i64 Try.underlying3 g t.length cap hn, TreeO.f ⟨xs, h1, h2⟩, ⟨rfl, rfl, rfl, Nat.le_refl _, fun _ _ _ => rfl⟩⟩
  · obtain ⟨v', w', r1, r2, r3⟩ := run_app_zerosK 22 3 22 45 zeroNode 10 208 treesE .i64 Try.underlying3 v t.length xs h1 hp k (by omega) (zerosN_one k) (by omega) hB
    exact ⟨v', w', r1, treeF_zeros h1 h2 r3 r2, r3⟩
/-- a copy of a tree, in new memory -/
structure WT (vp : Value) (w W : World) (g cap n : Nat) (F : Nat → NodeD) : Prop where
  all : ∃ xs, OwnK W w.heap.size 45 10 (.slice (some ⟨g, 0, none⟩) n cap) n xs ∧ xs.length = 10 * n ∧ (∀ j, j < n → NodeO W w.heap.size (F j) (cellsAt xs j).toArray) ∧ (∀ j k, j < k → k < n → apart2 (lateV xs j) (lateV xs k)) ∧ ∀ j, j < n → apart2 (lateV xs j) vp
  low : Below w.heap.size w W
theorem WT.tree {vp : Value} {w W : World} {g cap n : Nat} {F : Nat → NodeD} (h : WT vp w W g cap n F) : TreeF W w.heap.size (.slice (some ⟨g, 0, none⟩) n cap) n F := by
  obtain ⟨xs, h1, h2, h3, h4, h5⟩ := h.all
  exact ⟨xs, h1, h2, h3, h4⟩
theorem WT.of {w W : World} {g cap n : Nat} {F : Nat → NodeD} (h : TreeF W w.heap.size (.slice (some ⟨g, 0, none⟩) n cap) n F) (hb : Below w.heap.size w W) : WT (.slice none 0 0) w W g cap n F := by
  obtain ⟨xs, h1, h2, h3, h4⟩ := h
  exact ⟨⟨xs, h1, h2, h3, h4, fun j _ k _ hk => by simp [Value.ownBlock] at hk⟩, hb⟩
theorem WT.see {vp vp' : Value} {w W : World} {g cap n : Nat} {F : Nat → NodeD} (h : WT vp w W g cap n F) (hv : ∀ k, vp'.ownBlock = some k → W.heap.size ≤ k) : WT vp' w W g cap n F := by
  obtain ⟨xs, h1, h2, h3, h4, h5⟩ := h.all
  refine ⟨⟨xs, h1, h2, h3, h4, fun j hj k hk hk2 => ?_⟩, h.low⟩
  have l1 := ((h3 j hj).late).blockLt (g := k) (by simpa [lateV] using hk)
  have := hv k hk2
  omega
theorem WT.congr {vp : Value} {w W : World} {g cap n : Nat} {F G : Nat → NodeD} (h : WT vp w W g cap n F) (e : ∀ x, x < n → G x = F x) : WT vp w W g cap n G := by
  obtain ⟨xs, h1, h2, h3, h4, h5⟩ := h.all
  exact ⟨⟨xs, h1, h2, fun j hj => by rw [e j hj]; exact h3 j hj, h4, h5⟩, h.low⟩
theorem WT.below {vp : Value} {w W W' : World} {g cap n : Nat} {F : Nat → NodeD} (h : WT vp w W g cap n F) (hb : Below W.heap.size W W') : WT vp w W' g cap n F := by
  obtain ⟨xs, h1, h2, h3, h4, h5⟩ := h.all
  exact ⟨⟨xs, h1.below hb (Nat.le_refl _), h2, fun j hj => (h3 j hj).below hb (Nat.le_refl _), h4, h5⟩, h.low.trans (hb.mono h.low.size)⟩
theorem WT.blkG {vp : Value} {w W : World} {g cap n : Nat} {F : Nat → NodeD} (h : WT vp w W g cap n F) : ∃ cur, Blk W g 45 cur ∧ w.heap.size ≤ g ∧ n * 10 ≤ cur.size := by
  obtain ⟨xs, h1, h2, h3, h4⟩ := h.tree
  obtain ⟨cur, k1, k2, k3, k4⟩ := h1.blk
  exact ⟨cur, k1, k2, k4⟩
theorem WT.there {vp : Value} {w W : World} {g cap n : Nat} {F : Nat → NodeD} (h : WT vp w W g cap n F) {x : Nat} (hx : x < n) : W.there g (x * 10) 10 := by
  obtain ⟨cur, k1, k2, k3⟩ := h.blkG
  exact k1.there _ _ (by omega)
/-- a kind, and a late list, in place -/
theorem WT.kind {vp : Value} {w W : World} {g cap n : Nat} {F : Nat → NodeD} (h : WT vp w W g cap n F) {x : Nat} (hx : x < n) : W.cell? ⟨g, x * 10, none⟩ = some (.int .u8 ((F x).kind : Nat)) := by
  obtain ⟨cs, k1, k2, k3, _⟩ := h.tree.at hx
  have := k3 0 _ k2.c.kind
  rw [Nat.add_zero, Nat.mul_comm 10] at this
  exact this
theorem WT.late {vp : Value} {w W : World} {g cap n : Nat} {F : Nat → NodeD} (h : WT vp w W g cap n F) {x : Nat} (hx : x < n) : ∃ a c, W.cell? ⟨g, x * 10 + 9, none⟩ = some (.slice a (F x).par.late.length c) ∧ Rd W (.slice a (F x).par.late.length c) (ivs .i64 (F x).par.late) := by
  obtain ⟨cs, k1, k2, k3, _⟩ := h.tree.at hx
  obtain ⟨b, e, h1, h2⟩ := k2.c.late
  have := k3 9 _ h1
  rw [Nat.mul_comm 10] at this
  exact ⟨b, e, this, h2⟩
/-- a node is replaced by new cells, all of whose lists lie above what was there -/
theorem WT.node {vp : Value} {w W0 W : World} {g cap n : Nat} {F : Nat → NodeD} (h0 : WT vp w W0 g cap n F) (hz : ∀ k, vp.ownBlock = some k → k < W0.heap.size) (hW : Below W0.heap.size W0 W) {x : Nat} (hx : x < n) {d : NodeD} {cs : Array Value} (hd : NodeO W W0.heap.size d cs) :
    WT vp w (W.setCells g (x * 10) cs.toList) g cap n (fun y => if y = x then d else F y) := by
  have h := h0.below hW
  obtain ⟨cur, k1, k2, k3⟩ := h.blkG
  have hg := grownBy_setCells (w := W) (g := g) cs.toList (x * 10)
  have hc := hd.ones.1
  have hc' : cs.toList.length = 10 := by simpa using hc
  refine ⟨?_, h.low.grown hg h.low.size (fun k hk => by simp only [Option.some.injEq] at hk; omega)⟩
  obtain ⟨xs, h1, h2, h3, h4, h5⟩ := h0.all
  have hd' : NodeO W w.heap.size d cs := hd.mono h0.low.size
  have hlate := hd.late
  have hcell := fun j => cellsAt_put (vs := cs.toList) h2 hx hc' j
  rw [Nat.mul_comm 10 x] at hcell
  have hap : ∀ y, y < n → apart2 (lateV xs y) (cs.toList.getD 9 undef) := fun y hy k a1 a2 => by
    have l1 := ((h3 y hy).late).blockLt (g := k) (by simpa [lateV] using a1)
    have l2 := hlate.blockLt (g := k) a2
    omega
  refine ⟨putL xs (x * 10) cs.toList, (h1.below hW (Nat.le_refl _)).put _ _, by rw [putL_len]; exact h2, fun j hj => ?_, fun j k hjk hk => ?_, fun j hj => ?_⟩
  · rw [hcell j]
    by_cases e : j = x
    · simp only [e, if_true]; exact hd'.grownA k1 hg
    · simp only [e, if_false]; exact ((h3 j hj).below hW (Nat.le_refl _)).grownA k1 hg
  · unfold lateV
    rw [hcell j, hcell k]
    by_cases e1 : j = x
    · subst e1
      rw [if_pos rfl, if_neg (by omega)]
      exact (hap k hk).symm
    · rw [if_neg e1]
      by_cases e2 : k = x
      · subst e2
        rw [if_pos rfl]
        exact hap j (by omega)
      · rw [if_neg e2]; exact h4 j k hjk hk
  · unfold lateV
    rw [hcell j]
    by_cases e : j = x
    · rw [if_pos e]
      intro k a1 a2
      have := hlate.blockLt (g := k) a1
      have := hz k a2
      omega
    · rw [if_neg e]; exact h5 j hj
/-- one node's late list may be changed meanwhile -/
structure HoleT (w W : World) (g cap n : Nat) (F : Nat → NodeD) (xs : List Value) (x : Nat) (V : Value) : Prop where
  own : OwnK W w.heap.size 45 10 (.slice (some ⟨g, 0, none⟩) n cap) n xs
  nodes : ∀ j, j < n → j ≠ x → NodeO W w.heap.size (F j) (cellsAt xs j).toArray
  hole : NodeH W w.heap.size (F x) (cellsAt xs x).toArray V
  low : Below w.heap.size w W
structure HoleTA (vp : Value) (B N g n : Nat) (xs : List Value) (x : Nat) (V : Value) : Prop where
  len : xs.length = 10 * n
  hx : x < n
  ap : ∀ j, j < n → Go.Proofs.Ytlcmodbjbdfloaa.apartC (cellsAt xs j).toArray V
  late : ∀ j, j < n → j ≠ x → apart2 (lateV xs j) V
  pair : ∀ j k, j < k → k < n → apart2 (lateV xs j) (lateV xs k)
  vg : some g ≠ V.ownBlock
  vB : ∀ k, V.ownBlock = some k → B ≤ k ∧ k < N
  lv : xs[x * 10 + 9]? = some V
  lt : ∀ j, j < n → ∀ k, (lateV xs j).ownBlock = some k → k < N
  far : ∀ j, j < n → apart2 (lateV xs j) vp
  vV : apart2 V vp
theorem HoleT.grown {vp : Value} {w W W' : World} {N g cap n : Nat} {F : Nat → NodeD} {xs : List Value} {x : Nat} {V : Value} (h : HoleT w W g cap n F xs x V) (a : HoleTA vp w.heap.size N g n xs x V) (hg : W.grownBy W' V.ownBlock) : HoleT w W' g cap n F xs x V :=
  ⟨World.ownsRow.kept h.own hg (.inr (fun e => a.vg e)), fun j hj hne => (h.nodes j hj hne).grownV hg (a.ap j hj) (a.late j hj hne), h.hole.grownV hg (a.ap x a.hx), h.low.grown hg h.low.size fun k hk => (a.vB k hk).1⟩
theorem HoleT.late {vp : Value} {w W : World} {N g cap n : Nat} {F : Nat → NodeD} {xs : List Value} {x : Nat} {V : Value} (h : HoleT w W g cap n F xs x V) (a : HoleTA vp w.heap.size N g n xs x V) : W.cell? ⟨g, x * 10 + 9, none⟩ = some V ∧ W.frozen? ⟨g, x * 10 + 9, none⟩ = false := by
  have hx := a.hx
  have hl := a.len
  refine ⟨?_, World.ownsRow.frozenAt h.own _⟩
  rw [World.ownsRow.cellAt h.own _ (by omega)]
  exact a.lv
theorem HoleT.drew {w W : World} {g cap n : Nat} {F : Nat → NodeD} {xs : List Value} {x : Nat} {V : Value} (h : HoleT w W g cap n F xs x V) : HoleT w W.drew g cap n F xs x V :=
  ⟨h.own, h.nodes, h.hole, h.low.trans ⟨rfl, rfl, rfl, Nat.le_refl _, fun _ _ => rfl⟩⟩
theorem HoleT.put {vp : Value} {w W : World} {N g cap n : Nat} {F : Nat → NodeD} {xs : List Value} {x : Nat} {V V' : Value} {L : List Int} (h : HoleT w W g cap n F xs x V) (a : HoleTA vp w.heap.size N g n xs x V) (ho : Own W w.heap.size 3 V' (ivs .i64 L)) (hob : V'.ownBlock = V.ownBlock ∨ ∃ k, V'.ownBlock = some k ∧ N ≤ k) (hz : ∀ k, vp.ownBlock = some k → k < N) :
    WT vp w (W.setCell ⟨g, x * 10 + 9, none⟩ V') g cap n (fun y => if y = x then ⟨(F x).kind, (F x).leaf, ⟨(F x).par.box, (F x).par.hash, L⟩⟩ else F y) := by
  have hs := World.ownsRow.stored h.own (x * 10 + 9) V'
  obtain ⟨cur, hb, hBg, _⟩ := h.own.blk
  have hcs := fun j => cellsAt_set a.len a.hx 9 (by omega) V' j
  rw [Nat.mul_comm 10 x] at hcs
  have ap1 : ∀ j, j < n → j ≠ x → apart2 (lateV xs j) V' := fun j hj hne g' hg' hv' => by
    rcases hob with e | ⟨k, e, hk⟩
    · exact a.late j hj hne g' hg' (by rw [← e]; exact hv')
    · rw [hv'] at e
      simp only [Option.some.injEq] at e
      have := a.lt j hj g' hg'
      omega
  have hl : (cellsAt xs x).length = 10 := by
    have := a.len
    have := a.hx
    unfold cellsAt; rw [List.length_take, List.length_drop]; omega
  refine ⟨⟨xs.set (x * 10 + 9) V', hs.1, by rw [List.length_set]; exact a.len, fun j hj => ?_, fun j k hjk hk => ?_, fun j hj => ?_⟩, h.low.grown hs.2 h.low.size (fun k hk => by simp only [Option.some.injEq] at hk; omega)⟩
  · rw [hcs j]
    by_cases e : j = x
    · subst e
      simp only [if_true]
      rw [show ((cellsAt xs j).set 9 V').toArray = (cellsAt xs j).toArray.setIfInBounds 9 V' by simp]
      exact (h.hole.o ho).grownA hb hs.2
    · simp only [e, if_false]
      exact (h.nodes j hj e).grownA hb hs.2
  · have e9 : ((cellsAt xs x).set 9 V').getD 9 undef = V' := by rw [List.getD_eq_getElem?_getD, List.getElem?_set_self (by omega)]; rfl
    unfold lateV
    rw [hcs j, hcs k]
    by_cases e1 : j = x
    · subst e1
      rw [if_pos rfl, if_neg (by omega), e9]
      exact (ap1 k hk (by omega)).symm
    · rw [if_neg e1]
      by_cases e2 : k = x
      · subst e2
        rw [if_pos rfl, e9]
        exact ap1 j (by omega) e1
      · rw [if_neg e2]; exact a.pair j k hjk hk
  · have e9 : ((cellsAt xs x).set 9 V').getD 9 undef = V' := by rw [List.getD_eq_getElem?_getD, List.getElem?_set_self (by omega)]; rfl
    unfold lateV
    rw [hcs j]
    by_cases e1 : j = x
    · rw [if_pos e1, e9]
      intro k a1 a2
      rcases hob with e | ⟨k', e, hk'⟩
      · exact a.vV k (by rw [← e]; exact a1) a2
      · rw [a1] at e
        simp only [Option.some.injEq] at e
        have := hz k a2
        omega
    · rw [if_neg e1]; exact a.far j hj
/-- the late list of a node may be changed -/
theorem WT.hole {vp : Value} {w W : World} {g cap n : Nat} {F : Nat → NodeD} (h : WT vp w W g cap n F) {x : Nat} (hx : x < n) :
    ∃ xs V, HoleT w W g cap n F xs x V ∧ HoleTA vp w.heap.size W.heap.size g n xs x V ∧ Own W w.heap.size 3 V (ivs .i64 (F x).par.late) := by
  obtain ⟨curg, hbg, _, _⟩ := h.blkG
  obtain ⟨xs, h1, h2, h3, h4, h5⟩ := h.all
  have hnx := h3 x hx
  have hv := hnx.late
  have hl : (cellsAt xs x).length = 10 := by unfold cellsAt; rw [List.length_take, List.length_drop]; omega
  refine ⟨xs, lateV xs x, ⟨h1, fun j hj _ => h3 j hj, hnx.h, h.low⟩, ⟨h2, hx, fun j hj => (h3 j hj).apartC hv, fun j hj e => ?_, h4, ?_, fun k hk => ⟨(hv.blockLt hk).2, (hv.blockLt hk).1⟩, ?_, fun j hj k hk => ((h3 j hj).late.blockLt (g := k) (by simpa [lateV] using hk)).1, h5, h5 x hx⟩, hv⟩
  · rcases Nat.lt_or_ge j x with hlt | hge
    · exact h4 j x hlt hx
    · exact (h4 x j (by omega) hj).symm
  · intro e
    exact hv.ne_blk hbg (by decide) e.symm
  · have e : (cellsAt xs x)[9]? = some (lateV xs x) := by
      unfold lateV
      rw [List.getD_eq_getElem?_getD, List.getElem?_eq_getElem (by omega)]; rfl
    have := cellsAt_get h2 hx e
    rw [Nat.mul_comm] at this
    exact this
end Go.Proofs.Ytlcmodbjbdfloaa
/- Walks: tree.Add. -/
namespace Go.Proofs.Ytlcmodbjbdfloaa
open Go.RowKit WalkM WireM
set_option linter.unusedVariables false
theorem wrapS {x y : Int} (e : x = y) (h1 : -9223372036854775808 ≤ y) (h2 : y ≤ 9223372036854775807) : wrap64 x = y := by
  subst e; unfold wrap64; omega
theorem rightT_placed {t : List NodeD} (hr : rightT t = true) : placedB t = true := by
  rw [rightT, Bool.and_eq_true, Bool.and_eq_true] at hr
  exact hr.2.1
theorem TreeO.mono {w : World} {B B' : Nat} {v : Value} {t : List NodeD} (h : TreeO w B v t) (hB : B' ≤ B) : TreeO w B' v t := by
  obtain ⟨xs, k1, k2⟩ := h
  exact ⟨xs, k1.mono hB, k2.1, fun j hj => (k2.2.1 j hj).mono hB, k2.2.2⟩
theorem TreeO.sl {w : World} {B : Nat} {v : Value} {t : List NodeD} (h : TreeO w B v t) (hp : 0 < t.length) : ∃ g cap, v = .slice (some ⟨g, 0, none⟩) t.length cap ∧ B ≤ g ∧ g < w.heap.size ∧ cap ≤ 9223372036854775807 := by
  obtain ⟨xs, k1, k2⟩ := h
  obtain ⟨g, cap, e, h1, h2, h3, h4, _⟩ := k1.out hp
  exact ⟨g, cap, e, h1, h2, by unfold maxLen at h4; exact h4⟩
/-- one round of the way up: the node's late list, and what an insertion makes of it -/
theorem add_round {t : List NodeD} (hs : medT t = true) (hr : rightT t = true) (l : LeafD) {d i r m : Nat} (hd : d ≤ 16) (hm : m + 1 = 2 ^ (d + 1)) (hi : 2 * i + 1 < 2 ^ (d + 1)) (hrd : r < d) (hfree : (nd t (2 * i)).kind ≠ 1) (hk : (nd t (anc (2 * i) (r + 1))).kind = 2)
    {vp : Value} {w W : World} {g cap : Nat} (h : WT vp w W g cap m (addR t l i r)) :
    ∃ xs V L RL, HoleT w W g cap m (addR t l i r) xs (anc (2 * i) (r + 1)) V ∧ HoleTA vp w.heap.size W.heap.size g m xs (anc (2 * i) (r + 1)) V ∧ Own W w.heap.size 3 V (ivs .i64 L) ∧ SortI L ∧ L.length ≤ 1000 ∧
      (∀ pos, pos ≤ L.length → (∀ k, k < pos → L.getD k 0 < (i : Nat)) → (∀ k, pos ≤ k → k < L.length → ((i : Nat) : Int) ≤ L.getD k 0) → L.take pos ++ [((i : Nat) : Int)] ++ L.drop pos = RL) ∧
      (∀ W', WT vp w W' g cap m (fun y => if y = anc (2 * i) (r + 1) then (⟨(addR t l i r (anc (2 * i) (r + 1))).kind, (addR t l i r (anc (2 * i) (r + 1))).leaf, ⟨(addR t l i r (anc (2 * i) (r + 1))).par.box, (addR t l i r (anc (2 * i) (r + 1))).par.hash, RL⟩⟩ : NodeD) else addR t l i r y) → WT vp w W' g cap m (addR t l i (r + 1))) := by
  have ha := anc_in hd hi (show r + 1 ≤ d by omega)
  obtain ⟨xs, V, h1, h2, h3⟩ := h.hole (x := anc (2 * i) (r + 1)) (by omega)
  have e := addR_at t l hd hi hrd
  have hx : anc (2 * i) (r + 1) < t.length := by
    rcases Nat.lt_or_ge (anc (2 * i) (r + 1)) t.length with h | h
    · exact h
    · rw [nd_out h] at hk; cases hk
  have hp := rightT_placed hr
  have hlate := right_late (placed_at hp hx).2
  rw [e] at h3
  refine ⟨xs, V, _, insL (nd t (anc (2 * i) (r + 1))).par.late (i : Nat), h1, h2, h3, lateB_sort hlate, ?_, fun pos p1 p2 p3 => insL_of p1 p2 p3 (free_notLate hr hfree), fun W' hW => ?_⟩
  · have := of_decide_eq_true (medT_nd hs (anc (2 * i) (r + 1)))
    omega
  · refine hW.congr fun y hy => ?_
    rw [addR_step t l hd hi hrd (by omega)]
    by_cases ey : y = anc (2 * i) (r + 1)
    · rw [if_pos ey, if_pos ey, ey, hk, if_pos rfl, e]
      rfl
    · rw [if_neg ey, if_neg ey]
theorem add_still {t : List NodeD} (l : LeafD) {d i r m : Nat} (hd : d ≤ 16) (hm : m + 1 = 2 ^ (d + 1)) (hi : 2 * i + 1 < 2 ^ (d + 1)) (hrd : r < d) (hk : (nd t (anc (2 * i) (r + 1))).kind ≠ 2)
    {vp : Value} {w W : World} {g cap : Nat} (h : WT vp w W g cap m (addR t l i r)) : WT vp w W g cap m (addR t l i (r + 1)) := by
  refine h.congr fun y hy => ?_
  rw [addR_step t l hd hi hrd (by omega)]
  by_cases ey : y = anc (2 * i) (r + 1)
  · rw [if_pos ey, ey, if_neg hk, addR_at t l hd hi hrd]
  · rw [if_neg ey]
theorem add_begin {t : List NodeD} (l : LeafD) {i m : Nat} (hm : m ≤ 131071) (hi : 2 * i < m) {w W0 W : World} {g cap : Nat} {c : Array Value} (h0 : WT (.slice none 0 0) w W0 g cap m (nd t)) (hW : Below W0.heap.size W0 W) (hd : NodeO W W0.heap.size (heldD l) c) :
    WT (.slice none 0 0) w (W.setCells g (2 * i * 10) c.toList) g cap m (addR t l i 0) :=
  (h0.node (fun k hk => by simp [Value.ownBlock] at hk) hW hi hd).congr fun y hy => addR_zero t l (by omega)
theorem add_end {t : List NodeD} (l : LeafD) {d i m : Nat} (hd : d ≤ 16) (hm : m + 1 = 2 ^ (d + 1)) (hi : 2 * i + 1 < 2 ^ (d + 1)) {vp : Value} {w W : World} {g cap : Nat} (h : WT vp w W g cap m (addR t l i d)) :
    TreeO W w.heap.size (.slice (some ⟨g, 0, none⟩) m cap) (listT m (addF t l i)) := by
  have := (h.congr fun y hy => (addR_end t l hd hi (x := y) (by omega)).symm).tree
  exact this.o
set_option maxRecDepth 100000 in
set_option maxHeartbeats 16000000 in
theorem add_room (v : Value) (c : Array Value) (t : List NodeD) (l : LeafD) (d i : Nat) (w : World) (h : TreeR w v t) (hl : LeafC w l c) (hs : medT t = true) (hok : TreeOk t) (hr : rightT t = true) (hls : SmallL l) (hsrc : l.source < 256) (hlok : leafOkB l = true) (hlen : t.length + 1 = 2 * 2 ^ d) (hf : freeLeaf t (2 ^ d) i) (hi : i < 2 ^ d) (hd : d ≤ 15) :
    Calls Try.prog 10 #[v, .agg c] w fun e w' => ∃ v', e = .returned (.tuple #[v', .int .i64 (i : Nat), .int .u8 0]) ∧ TreeO w' w.heap.size v' (listT (2 * 2 ^ d - 1) (addF t l i)) ∧ Below w.heap.size w w' := by
  have h17 := two_pow_le (show d + 1 ≤ 16 by omega)
  have e2 : 2 ^ (d + 1) = 2 * 2 ^ d := by rw [Nat.pow_succ]; omega
  have hfree : (nd t (2 * i)).kind ≠ 1 := hf.2.2 hi
  have hmed := medT_len hs
  have hNN : leavesN t.length = 2 ^ d := leavesN_pow (by omega) hlen
  have hi1 : 2 * i + 1 < 2 ^ (d + 1) := by omega
  have TR := fun (W : World) (hw : Below w.heap.size w W) => tright_med v t W (h.below hw (Nat.le_refl _)) hs hok
  rw [hr] at TR
  have RL := fun (W : World) (hw : Below w.heap.size w W) => rightLeafT_any l c W (hl.below hw (Nat.le_refl _)) hls hsrc
  rw [hlok] at RL
  have HD := fun (W : World) (hw : Below w.heap.size w W) => held_any l c W (hl.below hw (Nat.le_refl _)) hls
  have CP := fun (W : World) (hw : Below w.heap.size w W) => (treeCopy_med v t W (h.below hw (Nat.le_refl _)) hs).mono (fun e w' (he : ∃ v', e = .returned v' ∧ TreeO w' W.heap.size v' t ∧ Below W.heap.size W w') => (show ∃ v', e = .returned v' ∧ TreeO w' w.heap.size v' t ∧ Below W.heap.size W w' from by
    obtain ⟨v', e1, h1, h2⟩ := he
    exact ⟨v', e1, h1.mono hw.size, h2⟩))
  have PA := fun (W : World) => path_any (2 * i) d (by omega) hi1 W
  rw [lev_even (by omega) (by omega), Nat.sub_zero] at PA
  obtain ⟨m, hm⟩ : ∃ m, m = 2 * 2 ^ d - 1 := ⟨_, rfl⟩
  have hm1 : m + 1 = 2 ^ (d + 1) := by omega
  obtain ⟨k, hk⟩ : ∃ k, t.length + k = m := ⟨m - t.length, by omega⟩
  have ZR := fun (W : World) (v1 : Value) (h1 : TreeO W w.heap.size v1 t) (hB : w.heap.size ≤ W.heap.size) => (show ∃ v' w', (Builtin.append_ #[22, 3] 22 #[v1, .int .i64 (k : Nat)]).run Try.prog W = .ok v' w' ∧ TreeF w' w.heap.size v' m (nd t) ∧ W.grownBy w' v1.ownBlock from by
    have := run_zeros h1 (by omega) (by omega) k (by omega) hB
    rw [hk] at this
    exact this)
  have SLV := fun (W : World) (v1 : Value) (h1 : TreeO W w.heap.size v1 t) => h1.sl (by omega)
  have ST := fun (W0 W : World) (g cap : Nat) (cs : Array Value) (h0 : WT (.slice none 0 0) w W0 g cap m (nd t)) (hW : Below W0.heap.size W0 W) (hd : NodeO W W0.heap.size (heldD l) cs) => add_begin l (i := i) (by omega) (by omega) h0 hW hd
  have RND := fun (vp : Value) (W : World) (g cap r : Nat) (hr1 : r < d) (hk : (nd t (anc (2 * i) (r + 1))).kind = 2) (h : WT vp w W g cap m (addR t l i r)) => add_round hs hr l (by omega) hm1 hi1 hr1 hfree hk h
  have STI := fun (vp : Value) (W : World) (g cap r : Nat) (hr1 : r < d) (hk : (nd t (anc (2 * i) (r + 1))).kind ≠ 2) (h : WT vp w W g cap m (addR t l i r)) => add_still l (by omega) hm1 hi1 hr1 hk h
  have FIN := fun (vp : Value) (W : World) (g cap : Nat) (h : WT vp w W g cap m (addR t l i d)) => add_end l (by omega) hm1 hi1 h
  have KIN := fun (vp : Value) (W : World) (g cap r : Nat) (hr1 : r < d) (h : WT vp w W g cap m (addR t l i r)) => (show W.cell? ⟨g, anc (2 * i) (r + 1) * 10, none⟩ = some (.int .u8 ((nd t (anc (2 * i) (r + 1))).kind : Nat)) ∧ anc (2 * i) (r + 1) < m from by
    have ha := anc_in (d := d) (by omega) hi1 (show r + 1 ≤ d by omega)
    have hx : anc (2 * i) (r + 1) < m := by omega
    have := h.kind hx
    rw [addR_at t l (by omega) hi1 hr1] at this
    exact ⟨this, hx⟩)
  have KB := fun (x : Nat) => (hok.nd x).kind
  have PLG := fun (r : Nat) (hr1 : r < d) => (show (nvs (ups (2 * i) 0 d))[r]? = some (.int .i64 (anc (2 * i) (r + 1) : Nat)) by simp [nvs, ivs, ups_at (2 * i) d 0 r hr1])
  have PLL : (nvs (ups (2 * i) 0 d)).length = d := by rw [nvs_len, ups_len]
  have TKN : ∀ j, j < i → (nd t (2 * j)).kind = 1 := hf.2.1
  have LVN := fun (W : World) (ta : Option Addr) (c' : Nat) => tleaves_any ta t.length c' W (by omega)
  rw [hNN] at LVN
  obtain ⟨ta, n0, rfl, hc, hc2⟩ := h.sl
  obtain ⟨b, off, lb, e1, rfl, hbl, -, -, -⟩ := h.at (i := 0) (show 0 < t.length by omega)
  have CK := fun (W : World) (hw : Below w.heap.size w W) (j : Nat) (hj : 2 * j < t.length) => (show W.cell? ⟨b, off + 2 * j * 10, none⟩ = some (.int .u8 ((nd t (2 * j)).kind : Nat)) from by
    obtain ⟨b', off', lb', e1', e, -, ck, -⟩ := (h.below hw (Nat.le_refl _)).at hj
    simp only [Option.some.injEq, Addr.mk.injEq, and_true] at e
    obtain ⟨rfl, rfl⟩ := e
    exact ck)
  obtain ⟨a1, c1, a2, c2, a3, c3, a4, c4, a5, c5, rfl, -⟩ := hl
  obtain ⟨l1, hl1⟩ : ∃ x, x = l.box.length := ⟨_, rfl⟩
  obtain ⟨l2, hl2⟩ : ∃ x, x = l.sign.length := ⟨_, rfl⟩
  obtain ⟨l3, hl3⟩ : ∃ x, x = l.ident.length := ⟨_, rfl⟩
  obtain ⟨l4, hl4⟩ : ∃ x, x = l.par.length := ⟨_, rfl⟩
  obtain ⟨l5, hl5⟩ : ∃ x, x = l.sig.length := ⟨_, rfl⟩
  obtain ⟨s, hsr⟩ : ∃ s, s = l.source := ⟨_, rfl⟩
  rw [← hl1, ← hl2, ← hl3, ← hl4, ← hl5, ← hsr] at RL HD ⊢
  obtain ⟨T, hT⟩ : ∃ T, T = nd t := ⟨_, rfl⟩
  rw [← hT] at ZR ST RND STI KIN KB TKN CK hfree
  obtain ⟨P, hP⟩ : ∃ P, P = addR t l i := ⟨_, rfl⟩
  rw [← hP] at ST RND STI FIN KIN
  obtain ⟨OUTT, hOUT⟩ : ∃ T, T = listT (2 * 2 ^ d - 1) (addF t l i) := ⟨_, rfl⟩
  rw [← hm] at hOUT
  rw [← hOUT] at FIN
  rw [← hm, ← hOUT]
  obtain ⟨PL, hPL⟩ : ∃ PL, PL = nvs (ups (2 * i) 0 d) := ⟨_, rfl⟩
  rw [← hPL] at PA PLG PLL
  obtain ⟨N, hN⟩ : ∃ N, N = 2 ^ d := ⟨_, rfl⟩
  rw [← hN] at PA hm
  rw [← hN] at LVN hi
  obtain ⟨A, hA⟩ : ∃ A : Nat → Nat, A = fun r => anc (2 * i) (r + 1) := ⟨_, rfl⟩
  have hA' : ∀ r, anc (2 * i) (r + 1) = A r := fun r => by rw [hA]
  simp only [hA'] at RND STI KIN PLG
  obtain ⟨D, hD⟩ : ∃ D, D = heldD l := ⟨_, rfl⟩
  rw [← hD] at ST HD
  obtain ⟨E, hE⟩ : ∃ E, E = d := ⟨_, rfl⟩
  rw [← hE] at RND STI FIN KIN PLG PLL
  obtain ⟨n, hn⟩ : ∃ n, n = t.length := ⟨_, rfl⟩
  rw [← hn] at LVN SLV TR CP hc hk hlen CK
  rw [← hn]
  have hqm : 2 * i < m := by omega
  have hE16 : E ≤ 16 := by omega
  have hN16 : N ≤ 65536 := by omega
  have hm5 : m ≤ 131071 := by omega
  have hkm : k ≤ 131071 := by omega
  have hiN : i < N := by omega
  have hmN : m = 2 * N - 1 := hm
  have hkI : (k : Int) = wrap64 (2 * (N : Int) - 1 - (n : Int)) := (wrapS (by omega) (by omega) (by omega)).symm
  rw [hkI] at ZR
  have hjm : 2 * (i : Int) < (m : Int) := by omega
  rw [show ((2 * i : Nat) : Int) = 2 * (i : Int) by omega] at PA
  have HTR := Lib.hid TR
  have HRL := Lib.hid RL
  have HHD := Lib.hid HD
  have HCP := Lib.hid CP
  have HPA := Lib.hid PA
  have HLV := Lib.hid LVN
  have HZR := Lib.hid ZR
  have HSLV := Lib.hid SLV
  have HST := Lib.hid ST
  have HRND := Lib.hid RND
  have HSTI := Lib.hid STI
  have HFIN := Lib.hid FIN
  have HKIN := Lib.hid KIN
  have HKB := Lib.hid KB
  have HTK := Lib.hid TKN
  have HCK := Lib.hid CK
  have HPLG := Lib.hid PLG
  have HPLL := Lib.hid PLL
  have HFR := Lib.hid hfree
  have HNL := Lib.hid hn
  have HN := Lib.hid (show n + 1 = 2 * N by omega)
  have HMN := Lib.hid hmN
  have HK := Lib.hid hk
  clear hkI TR RL HD CP PA LVN ZR SLV ST RND STI FIN KIN KB TKN CK PLG PLL hfree hmN hk hn hE hD hA hA' hN hm1 hm hPL hOUT hP hT hsr hl5 hl4 hl3 hl2 hl1 hNN hmed hi1 e2 h17 hlen hf hd hr hok hs h hls hsrc hlok  hc
  go_enter Try.func10, Try.ntmps10
  go_wp2_with fail
  have HBK0 := Lib.hid (Blk.new w 25 #[.slice a1 l1 c1, .slice a2 l2 c2, .slice a3 l3 c3, .int .u8 (s : Nat), .slice a4 l4 c4, .slice a5 l5 c5])
  have HB0 := Lib.hid ((Below.refl w.heap.size w).alloc (Nat.le_refl _) (.cells #[.slice a1 l1 c1, .slice a2 l2 c2, .slice a3 l3 c3, .int .u8 (s : Nat), .slice a4 l4 c4, .slice a5 l5 c5] 25))
  generalize hw0 : w.alloc (.cells #[.slice a1 l1 c1, .slice a2 l2 c2, .slice a3 l3 c3, .int .u8 (s : Nat), .slice a4 l4 c4, .slice a5 l5 c5] 25) = w0 at HBK0 HB0 ⊢
  clear hw0
  refine (HTR.out w0 HB0.out).mono ?_
  rintro e w1 ⟨rfl, hb⟩
  have HB1 := Lib.hid (HB0.out.trans (hb.mono HB0.out.size))
  have HBK1 := Lib.hid (HBK0.out.below hb HBK0.out.lt)
  clear hb
  go_wp2_with (refine wpList_load_at rfl 25 (.tmp 3) rfl w.heap.size rfl 25 #[.slice a1 l1 c1, .slice a2 l2 c2, .slice a3 l3 c3, .int .u8 (s : Nat), .slice a4 l4 c4, .slice a5 l5 c5] (0, 0) _ HBK1.out Try.underlying25 rfl (by kernel_rfl) ?_)
  refine (HRL.out w1 HB1.out).mono ?_
  rintro e w2 ⟨rfl, hb⟩
  have HB2 := Lib.hid (HB1.out.trans (hb.mono HB1.out.size))
  have HBK2 := Lib.hid (HBK1.out.below hb HBK1.out.lt)
  clear hb
  go_wp2_with fail
  refine (HLV.out w2 _ _).mono ?_
  rintro e w' ⟨rfl, rfl⟩
  go_wp2_with fail
  go_loopg [8] N (fun q iv wr => ∃ j : Nat, j + q = N ∧ j ≤ i ∧ iv = .int .i64 (j : Nat) ∧ wr = w')
  case atStart => exact ⟨0, by omega, Nat.zero_le _, rfl, rfl⟩
  case round =>
    obtain ⟨j, hj, hji, rfl, rfl⟩ := hrel
    have HJ := Lib.hid hj
    clear hj
    have hwj : wrap64 (2 * (j : Int)) = 2 * (j : Int) := wrapS (by omega) (by omega) (by omega)
    have hjt : (2 * (j : Int)).toNat = 2 * j := by omega
    by_cases hlt : j < i
    · have hltN : j < N := by omega
      have hltb : decide (j < N) = true := decide_eq_true hltN
      have hltI : decide ((j : Int) < (N : Int)) = true := decide_eq_true (by omega)
      have hjn : 2 * (j : Int) < (n : Int) := by have := HN.out; omega
      have ck := HCK.out wr HB2.out j (by omega)
      rw [HTK.out j hlt] at ck
      have ck2 : wr.cell? ⟨b, off + 2 * j * 10, none⟩ = some (.int .u8 1) := ck
      clear ck
      go_wp2_with fail
      go_roundg (gk - 1)
      case measure => have := HJ.out; omega
      case rel => exact ⟨j + 1, by have := HJ.out; omega, by omega, by go_num, rfl⟩
    · obtain rfl : i = j := by omega
      clear hlt
      have hltb : decide (i < N) = true := decide_eq_true hi
      have hltI : decide ((i : Int) < (N : Int)) = true := decide_eq_true (by omega)
      have hjn : 2 * (i : Int) < (n : Int) := by have := HN.out; omega
      have hjn2 : 2 * i < n := by omega
      have ck := HCK.out wr HB2.out i (by have := HN.out; omega)
      have hkk := HFR.out
      have hkb := HKB.out (2 * i)
      obtain ⟨kd, hkd⟩ : ∃ k, k = (T (2 * i)).kind := ⟨_, rfl⟩
      rw [← hkd] at ck hkk hkb
      have hne : ((kd : Int) == 1) = false := by rw [beq_eq_false_iff_ne]; omega
      have hiN2 : ((i : Int) == (N : Int)) = false := by rw [beq_eq_false_iff_ne]; omega
      have hiN3 : ¬ ((i : Int) = (N : Int)) := by omega
      have hiN4 : ¬ (i = N) := by omega
      clear hkd hkk
      go_wp2_with fail
      refine (HCP.out wr HB2.out).mono ?_
      rintro e w3 ⟨v3, rfl, hto, hb⟩
      have HB3 := Lib.hid (HB2.out.trans (hb.mono HB2.out.size))
      have HBK3 := HBK2.out.below hb HBK2.out.lt
      clear hb
      obtain ⟨g3, cap3, rfl, hg3B, hg3, hcap3⟩ := HSLV.out w3 v3 hto
      obtain ⟨v4, w4, hrun, htf4, hg4⟩ := HZR.out w3 _ hto HB3.out.size
      have hne3 : some w.heap.size ≠ (Value.slice (some ⟨g3, 0, none⟩) n cap3).ownBlock := by
        intro e
        simp only [Value.ownBlock, Option.some.injEq] at e
        obtain ⟨xs, k1, _⟩ := hto
        rw [← HNL.out] at k1
        obtain ⟨cur, kb, _⟩ := k1.blk
        rw [← e] at kb
        unfold Blk at kb HBK3
        rw [HBK3] at kb
        simp at kb
      have hbk4 : Blk w4 w.heap.size 25 #[.slice a1 l1 c1, .slice a2 l2 c2, .slice a3 l3 c3, .int .u8 (s : Nat), .slice a4 l4 c4, .slice a5 l5 c5] := (hg4.block w.heap.size HBK3.lt hne3).trans HBK3
      have hb4 : Below w.heap.size w w4 := HB3.out.grown hg4 HB3.out.size (fun k hk => by simp only [Value.ownBlock, Option.some.injEq] at hk; omega)
      obtain ⟨g, cap, rfl, hgB, hgl, hmc, hcm⟩ := htf4.sl (by omega)
      have hcap : cap ≤ 9223372036854775807 := by unfold maxLen at hcm; exact hcm
      have HWT4 := Lib.hid (WT.of htf4 hb4)
      have HB4 := Lib.hid hb4
      have HBK4 := Lib.hid hbk4
      have HRUN := Lib.hid hrun
      clear hto hrun htf4 hg4 hne3 hbk4 hb4 HBK3 hgB hg3B hcm
      go_wp2_with (first | (at_builtin; refine wpList_app_run rfl (.tmp 46) (.tmp 52) 22 3 rfl _ _ rfl rfl _ _ HRUN.out ?_) | (refine wpList_load_at rfl 25 (.tmp 3) rfl w.heap.size rfl 25 #[.slice a1 l1 c1, .slice a2 l2 c2, .slice a3 l3 c3, .int .u8 (s : Nat), .slice a4 l4 c4, .slice a5 l5 c5] (0, 0) _ HBK4.out Try.underlying25 rfl (by kernel_rfl) ?_))
      refine (HHD.out w4 HB4.out).mono ?_
      rintro e w5 ⟨c', rfl, hno5, hb5⟩
      obtain ⟨hcz, hco⟩ := hno5.ones
      have HS5 := Lib.hid (HST.out w4 w5 g cap c' HWT4.out hb5 hno5)
      have HTH := Lib.hid (show w5.there g (2 * i * 10) c'.size by rw [hcz]; exact (HWT4.out.below hb5).there hqm)
      have HI := Lib.hid (show (Try.prog.info? 45).map (·.size) = some c'.size by rw [hcz]; exact node_info)
      have HONE := Lib.hid (show c'.all (·.oneCell') = true by rw [← Array.all_toList]; exact hco)
      obtain ⟨w9, hw9⟩ : ∃ w9, w9 = w5.setCells g (2 * i * 10) c'.toList := ⟨_, rfl⟩
      rw [← hw9] at HS5
      have HW9 := Lib.hid hw9
      clear hno5 hb5 hcz hco hw9
      go_wp2_with (refine wpList_store_mid rfl 45 (.tmp 59) (.tmp 58) rfl g (2 * i * 10) c' rfl rfl HTH.out HI.out HONE.out ?_; rw [← HW9.out])
      refine (HPA.out w9).mono ?_
      rintro e w6 ⟨vp, rfl, hownp, hbp⟩
      have HW6 := Lib.hid ((HS5.out.below hbp).see (vp' := .slice none 0 0) (fun k hk => by simp [Value.ownBlock] at hk))
      have HWV := Lib.hid ((HS5.out.see (vp' := vp) (fun k hk => (hownp.blockLt hk).2)).below hbp)
      obtain ⟨BP, hBP⟩ : ∃ B, B = w9.heap.size := ⟨_, rfl⟩
      rw [← hBP] at hownp
      have HOP0 := Lib.hid hownp
      obtain ⟨ap, cp, hvp⟩ : ∃ a c, vp = .slice a E c := by obtain ⟨a, c, e, _⟩ := hownp.rd; rw [HPLL.out] at e; exact ⟨a, c, e⟩
      have HVP := Lib.hid hvp
      clear hownp hbp hBP
      subst hvp
      obtain ⟨vp, hvp⟩ : ∃ v, v = Value.slice ap E cp := ⟨_, rfl⟩
      have HVE := Lib.hid hvp
      rw [← hvp] at HWV HOP0
      clear HVP hvp
      go_wp2_with fail
      obtain ⟨g0, rfl⟩ : ∃ g0, g0 = gk := ⟨_, rfl⟩
      obtain ⟨w7, rfl⟩ : ∃ w7, w7 = wr := ⟨_, rfl⟩
      go_loopg [65] E (fun q iv wr => ∃ r : Nat, r + q = E ∧ iv = .int .i64 (r : Nat) ∧ WT vp w wr g cap m (P r) ∧ Own wr BP 3 vp PL)
      case atStart => exact ⟨0, by omega, rfl, HWV.out, HOP0.out⟩
      case round =>
        obtain ⟨r, hr, rfl, hwt, hop⟩ := hrel
        have HR := Lib.hid hr
        have HWT := Lib.hid hwt
        have HOP := Lib.hid hop
        by_cases hlt : r < E
        · have hlt' : decide (r < E) = true := decide_eq_true hlt
          have hltI : (r : Int) < (E : Int) := by omega
          have hrd := hop.rd
          rw [HVE.out] at hrd
          obtain ⟨bp, op, rfl, hbp2, cu⟩ := hrd.at3 (HPLG.out r hlt)
          obtain ⟨ck, hxm⟩ := HKIN.out vp wr g cap r hlt hwt
          obtain ⟨x, hx⟩ : ∃ x, x = A r := ⟨_, rfl⟩
          have HX := Lib.hid hx
          rw [← hx] at cu ck hxm
          have hkb := HKB.out x
          obtain ⟨kd, hkd⟩ : ∃ k, k = (T x).kind := ⟨_, rfl⟩
          rw [← hkd] at ck hkb
          have HKD := Lib.hid hkd
          clear hr hwt hop hrd hx hkd
          by_cases hk2 : kd = 2
          · subst hk2
            obtain ⟨xs, V, L, RL, h1, h2, h3, h4, h5, h6, h7⟩ := HRND.out vp wr g cap r hlt (by rw [← HX.out]; exact HKD.out.symm) HWT.out
            obtain ⟨F1, hF1⟩ : ∃ F, F = P r := ⟨_, rfl⟩
            obtain ⟨F2, hF2⟩ : ∃ F, F = P (r + 1) := ⟨_, rfl⟩
            rw [← hF1, ← HX.out] at h1 h7
            rw [← HX.out] at h2
            rw [← hF2] at h7
            have HF2 := Lib.hid hF2
            have HH := Lib.hid h1
            have HA := Lib.hid h2
            have HWR := Lib.hid h3
            have HPOS := Lib.hid h6
            have HFW := Lib.hid h7
            have HZ := Lib.hid (show ∀ k, vp.ownBlock = some k → k < wr.heap.size from fun k hk => (HOP.out.blockLt hk).1)
            have HPG := Lib.hid (show vp.ownBlock ≠ some g from by
              obtain ⟨cur, kb, _⟩ := HWT.out.blkG
              exact HOP.out.ne_blk kb (by decide))
            have hBS := bsearch_any V L ((i : Nat) : Int) wr h3.rd h4 (by omega)
            have hINS := fun (pos : Nat) (hp : pos ≤ L.length) (wx : World) (U : Value) (k1 : Own wx w.heap.size 3 V (ivs .i64 L)) (k2 : Own wx wr.heap.size 3 U [.int .i64 ((i : Nat) : Int)]) (k3 : w.heap.size ≤ wx.heap.size) => ins_any V U L ((i : Nat) : Int) pos w.heap.size wr.heap.size wx k1 k2 hp (by omega) k3 (fun k hk => (h2.vB k hk).2)
            have HBS := Lib.hid hBS
            have HINS0 := Lib.hid hINS
            have cl := (h1.late h2).1
            clear h1 h2 h3 h4 h5 h6 h7 hF1 hF2 hBS hINS
            go_wp2_with fail
            refine (HBS.out).mono ?_
            rintro e w8 ⟨pos, rfl, p1, p2, p3, hw8⟩
            obtain rfl := hw8.symm
            have HINS := Lib.hid (fun (wx : World) (U : Value) (k1 : Own wx w.heap.size 3 V (ivs .i64 L)) (k2 : Own wx wr.heap.size 3 U [.int .i64 ((i : Nat) : Int)]) (k3 : w.heap.size ≤ wx.heap.size) => (show Calls Try.prog 36 #[V, .int .i64 (pos : Nat), U] wx fun e w' => ∃ V', e = .returned V' ∧ InsR wx w' w.heap.size V V' RL from by
              have := HINS0.out pos p1 wx U k1 k2 k3
              rw [HPOS.out pos p1 p2 p3] at this
              exact this))
            clear p1 p2 p3
            go_wp2_with fail
            refine (HINS.out _ _ (HWR.out.alloc _) (Own.full (B := wr.heap.size) (cs := #[.int .i64 (i : Nat)]) rfl (Nat.le_refl _) (by unfold maxLen; simp) rfl) (Nat.le_trans HWT.out.low.size (by simp))).mono ?_
            rintro e w9 ⟨V', rfl, ho9, hg9, hv9⟩
            have hh9 := (HH.out.grown HA.out (World.grownBy_alloc wr (.cells #[.int .i64 (i : Nat)] 3) _)).grown HA.out hg9
            have hp9 := (HOP.out.alloc (.cells #[.int .i64 (i : Nat)] 3)).grown hg9 (fun k hk e => HA.out.vV k e hk)
            have dd := HFW.out _ (hh9.put HA.out ho9 (hv9.imp id fun ⟨k, e, hk⟩ => ⟨k, e, by simp at hk; omega⟩) HZ.out)
            have dp := hp9.setOther (a := ⟨g, x * 10 + 9, none⟩) HPG.out V'
            have d1 := (hh9.late HA.out).1
            have d2 := (hh9.late HA.out).2
            obtain ⟨q1, q2, q3, rfl⟩ := slOf ho9
            have HDD := Lib.hid dd
            have HDP := Lib.hid dp
            clear hh9 hp9 dd dp ho9 hg9 hv9
            go_wp2_with fail
            go_roundg (gk - 1)
            case measure => have := HR.out; omega
            case rel => exact ⟨r + 1, by have := HR.out; omega, by go_num, by rw [← HF2.out]; exact HDD.out, HDP.out⟩
          · have hk2' : ((kd : Int) == 2) = false := by rw [beq_eq_false_iff_ne]; omega
            have HNX := Lib.hid (HSTI.out vp wr g cap r hlt (by rw [← HX.out, ← HKD.out]; exact hk2) HWT.out)
            clear hk2
            go_wp2_with fail
            go_roundg (gk - 1)
            case measure => have := HR.out; omega
            case rel => exact ⟨r + 1, by have := HR.out; omega, by go_num, HNX.out, HOP.out⟩
        · obtain rfl : r = E := by omega
          have hlt' : decide (r < r) = false := decide_eq_false hlt
          have HF := Lib.hid (HFIN.out vp wr g cap hwt)
          have HB := Lib.hid hwt.low
          clear hr hwt hop hlt
          go_wp2_with fail
          go_ret3
          exact ⟨_, rfl, HF.out, HB.out⟩
set_option maxRecDepth 100000 in
set_option maxHeartbeats 16000000 in
theorem add_full (v : Value) (c : Array Value) (t : List NodeD) (l : LeafD) (d : Nat) (w : World) (h : TreeR w v t) (hl : LeafC w l c) (hs : medT t = true) (hok : TreeOk t) (hr : rightT t = true) (hls : SmallL l) (hsrc : l.source < 256) (hlok : leafOkB l = true) (hlen : t.length + 1 = 2 * 2 ^ d) (hf : freeLeaf t (2 ^ d) (2 ^ d)) (hd : d ≤ 14) :
    Calls Try.prog 10 #[v, .agg c] w fun e w' => ∃ v', e = .returned (.tuple #[v', .int .i64 ((2 ^ d) : Nat), .int .u8 0]) ∧ TreeO w' w.heap.size v' (listT (2 * 2 ^ (d + 1) - 1) (addF t l (2 ^ d))) ∧ Below w.heap.size w w' := by
  obtain ⟨i, hie⟩ : ∃ i, i = 2 ^ d := ⟨_, rfl⟩
  rw [← hie] at hf ⊢
  have h17 := two_pow_le (show d + 1 ≤ 16 by omega)
  have e2 : 2 ^ (d + 1) = 2 * 2 ^ d := by rw [Nat.pow_succ]; omega
  have e3 : 2 ^ (d + 1 + 1) = 2 * 2 ^ (d + 1) := by rw [Nat.pow_succ]; omega
  have hfree : (nd t (2 * i)).kind ≠ 1 := by rw [hie, nd_out (by omega)]; decide
  have hmed := medT_len hs
  have hNN : leavesN t.length = 2 ^ d := leavesN_pow (by omega) hlen
  have hi1 : 2 * i + 1 < 2 ^ ((d + 1) + 1) := by omega
  have TR := fun (W : World) (hw : Below w.heap.size w W) => tright_med v t W (h.below hw (Nat.le_refl _)) hs hok
  rw [hr] at TR
  have RL := fun (W : World) (hw : Below w.heap.size w W) => rightLeafT_any l c W (hl.below hw (Nat.le_refl _)) hls hsrc
  rw [hlok] at RL
  have HD := fun (W : World) (hw : Below w.heap.size w W) => held_any l c W (hl.below hw (Nat.le_refl _)) hls
  have CP := fun (W : World) (hw : Below w.heap.size w W) => (treeCopy_med v t W (h.below hw (Nat.le_refl _)) hs).mono (fun e w' (he : ∃ v', e = .returned v' ∧ TreeO w' W.heap.size v' t ∧ Below W.heap.size W w') => (show ∃ v', e = .returned v' ∧ TreeO w' w.heap.size v' t ∧ Below W.heap.size W w' from by
    obtain ⟨v', e1, h1, h2⟩ := he
    exact ⟨v', e1, h1.mono hw.size, h2⟩))
  have PA := fun (W : World) => path_any (2 * i) (d + 1) (by omega) hi1 W
  rw [lev_even (by omega) (by omega), Nat.sub_zero] at PA
  obtain ⟨m, hm⟩ : ∃ m, m = 2 * 2 ^ (d + 1) - 1 := ⟨_, rfl⟩
  have hm1 : m + 1 = 2 ^ ((d + 1) + 1) := by omega
  obtain ⟨k, hk⟩ : ∃ k, t.length + k = m := ⟨m - t.length, by omega⟩
  have ZR := fun (W : World) (v1 : Value) (h1 : TreeO W w.heap.size v1 t) (hB : w.heap.size ≤ W.heap.size) => (show ∃ v' w', (Builtin.append_ #[22, 3] 22 #[v1, .int .i64 (k : Nat)]).run Try.prog W = .ok v' w' ∧ TreeF w' w.heap.size v' m (nd t) ∧ W.grownBy w' v1.ownBlock from by
    have := run_zeros h1 (by omega) (by omega) k (by omega) hB
    rw [hk] at this
    exact this)
  have SLV := fun (W : World) (v1 : Value) (h1 : TreeO W w.heap.size v1 t) => h1.sl (by omega)
  have ST := fun (W0 W : World) (g cap : Nat) (cs : Array Value) (h0 : WT (.slice none 0 0) w W0 g cap m (nd t)) (hW : Below W0.heap.size W0 W) (hd : NodeO W W0.heap.size (heldD l) cs) => add_begin l (i := i) (by omega) (by omega) h0 hW hd
  have RND := fun (vp : Value) (W : World) (g cap r : Nat) (hr1 : r < (d + 1)) (hk : (nd t (anc (2 * i) (r + 1))).kind = 2) (h : WT vp w W g cap m (addR t l i r)) => add_round hs hr l (by omega) hm1 hi1 hr1 hfree hk h
  have STI := fun (vp : Value) (W : World) (g cap r : Nat) (hr1 : r < (d + 1)) (hk : (nd t (anc (2 * i) (r + 1))).kind ≠ 2) (h : WT vp w W g cap m (addR t l i r)) => add_still l (by omega) hm1 hi1 hr1 hk h
  have FIN := fun (vp : Value) (W : World) (g cap : Nat) (h : WT vp w W g cap m (addR t l i (d + 1))) => add_end l (by omega) hm1 hi1 h
  have KIN := fun (vp : Value) (W : World) (g cap r : Nat) (hr1 : r < (d + 1)) (h : WT vp w W g cap m (addR t l i r)) => (show W.cell? ⟨g, anc (2 * i) (r + 1) * 10, none⟩ = some (.int .u8 ((nd t (anc (2 * i) (r + 1))).kind : Nat)) ∧ anc (2 * i) (r + 1) < m from by
    have ha := anc_in (d := (d + 1)) (by omega) hi1 (show r + 1 ≤ (d + 1) by omega)
    have hx : anc (2 * i) (r + 1) < m := by omega
    have := h.kind hx
    rw [addR_at t l (by omega) hi1 hr1] at this
    exact ⟨this, hx⟩)
  have KB := fun (x : Nat) => (hok.nd x).kind
  have PLG := fun (r : Nat) (hr1 : r < (d + 1)) => (show (nvs (ups (2 * i) 0 (d + 1)))[r]? = some (.int .i64 (anc (2 * i) (r + 1) : Nat)) by simp [nvs, ivs, ups_at (2 * i) (d + 1) 0 r hr1])
  have PLL : (nvs (ups (2 * i) 0 (d + 1))).length = (d + 1) := by rw [nvs_len, ups_len]
  have TKN : ∀ j, j < i → (nd t (2 * j)).kind = 1 := hf.2.1
  have LVN := fun (W : World) (ta : Option Addr) (c' : Nat) => tleaves_any ta t.length c' W (by omega)
  rw [hNN] at LVN
  obtain ⟨ta, n0, rfl, hc, hc2⟩ := h.sl
  obtain ⟨b, off, lb, e1, rfl, hbl, -, -, -⟩ := h.at (i := 0) (show 0 < t.length by omega)
  have CK := fun (W : World) (hw : Below w.heap.size w W) (j : Nat) (hj : 2 * j < t.length) => (show W.cell? ⟨b, off + 2 * j * 10, none⟩ = some (.int .u8 ((nd t (2 * j)).kind : Nat)) from by
    obtain ⟨b', off', lb', e1', e, -, ck, -⟩ := (h.below hw (Nat.le_refl _)).at hj
    simp only [Option.some.injEq, Addr.mk.injEq, and_true] at e
    obtain ⟨rfl, rfl⟩ := e
    exact ck)
  obtain ⟨a1, c1, a2, c2, a3, c3, a4, c4, a5, c5, rfl, -⟩ := hl
  obtain ⟨l1, hl1⟩ : ∃ x, x = l.box.length := ⟨_, rfl⟩
  obtain ⟨l2, hl2⟩ : ∃ x, x = l.sign.length := ⟨_, rfl⟩
  obtain ⟨l3, hl3⟩ : ∃ x, x = l.ident.length := ⟨_, rfl⟩
  obtain ⟨l4, hl4⟩ : ∃ x, x = l.par.length := ⟨_, rfl⟩
  obtain ⟨l5, hl5⟩ : ∃ x, x = l.sig.length := ⟨_, rfl⟩
  obtain ⟨s, hsr⟩ : ∃ s, s = l.source := ⟨_, rfl⟩
  rw [← hl1, ← hl2, ← hl3, ← hl4, ← hl5, ← hsr] at RL HD ⊢
  obtain ⟨T, hT⟩ : ∃ T, T = nd t := ⟨_, rfl⟩
  rw [← hT] at ZR ST RND STI KIN KB TKN CK hfree
  obtain ⟨P, hP⟩ : ∃ P, P = addR t l i := ⟨_, rfl⟩
  rw [← hP] at ST RND STI FIN KIN
  obtain ⟨OUTT, hOUT⟩ : ∃ T, T = listT (2 * 2 ^ (d + 1) - 1) (addF t l i) := ⟨_, rfl⟩
  rw [← hm] at hOUT
  rw [← hOUT] at FIN
  rw [← hm, ← hOUT]
  obtain ⟨PL, hPL⟩ : ∃ PL, PL = nvs (ups (2 * i) 0 (d + 1)) := ⟨_, rfl⟩
  rw [← hPL] at PA PLG PLL
  obtain ⟨N, hN⟩ : ∃ N, N = 2 ^ (d + 1) := ⟨_, rfl⟩
  rw [← hN] at PA hm
  rw [← hie] at LVN
  have hNi : N = 2 * i := by omega
  obtain ⟨A, hA⟩ : ∃ A : Nat → Nat, A = fun r => anc (2 * i) (r + 1) := ⟨_, rfl⟩
  have hA' : ∀ r, anc (2 * i) (r + 1) = A r := fun r => by rw [hA]
  simp only [hA'] at RND STI KIN PLG
  obtain ⟨D, hD⟩ : ∃ D, D = heldD l := ⟨_, rfl⟩
  rw [← hD] at ST HD
  obtain ⟨E, hE⟩ : ∃ E, E = (d + 1) := ⟨_, rfl⟩
  rw [← hE] at RND STI FIN KIN PLG PLL
  obtain ⟨n, hn⟩ : ∃ n, n = t.length := ⟨_, rfl⟩
  rw [← hn] at LVN SLV TR CP hc hk hlen CK
  rw [← hn]
  have hqm : 2 * i < m := by omega
  have hE16 : E ≤ 16 := by omega
  have hN16 : N ≤ 65536 := by omega
  have hm5 : m ≤ 131071 := by omega
  have hkm : k ≤ 131071 := by omega
  have hiN : i < N := by omega
  have hmN : m = 2 * N - 1 := hm
  have hkI : (k : Int) = wrap64 (2 * (N : Int) - 1 - (n : Int)) := (wrapS (by omega) (by omega) (by omega)).symm
  rw [hkI] at ZR
  have hjm : 2 * (i : Int) < (m : Int) := by omega
  rw [show ((2 * i : Nat) : Int) = 2 * (i : Int) by omega] at PA
  rw [show (N : Int) = (i : Int) * 2 by omega] at PA ZR
  have HTR := Lib.hid TR
  have HRL := Lib.hid RL
  have HHD := Lib.hid HD
  have HCP := Lib.hid CP
  have HPA := Lib.hid PA
  have HLV := Lib.hid LVN
  have HZR := Lib.hid ZR
  have HSLV := Lib.hid SLV
  have HST := Lib.hid ST
  have HRND := Lib.hid RND
  have HSTI := Lib.hid STI
  have HFIN := Lib.hid FIN
  have HKIN := Lib.hid KIN
  have HKB := Lib.hid KB
  have HTK := Lib.hid TKN
  have HCK := Lib.hid CK
  have HPLG := Lib.hid PLG
  have HPLL := Lib.hid PLL
  have HFR := Lib.hid hfree
  have HNL := Lib.hid hn
  have HN := Lib.hid (show n + 1 = 2 * i by omega)
  have HMN := Lib.hid hmN
  have HK := Lib.hid hk
  have HNI := Lib.hid hNi
  have hi16 : i < 65536 := by omega
  clear hNi
  clear hkI TR RL HD CP PA LVN ZR SLV ST RND STI FIN KIN KB TKN CK PLG PLL hfree hmN hk hn hE hD hA hA' hN hm1 hm hPL hOUT hP hT hsr hl5 hl4 hl3 hl2 hl1 hNN hmed hi1 e2 h17 hlen hf hd hr hok hs h hls hsrc hlok  hie hc
  go_enter Try.func10, Try.ntmps10
  go_wp2_with fail
  have HBK0 := Lib.hid (Blk.new w 25 #[.slice a1 l1 c1, .slice a2 l2 c2, .slice a3 l3 c3, .int .u8 (s : Nat), .slice a4 l4 c4, .slice a5 l5 c5])
  have HB0 := Lib.hid ((Below.refl w.heap.size w).alloc (Nat.le_refl _) (.cells #[.slice a1 l1 c1, .slice a2 l2 c2, .slice a3 l3 c3, .int .u8 (s : Nat), .slice a4 l4 c4, .slice a5 l5 c5] 25))
  generalize hw0 : w.alloc (.cells #[.slice a1 l1 c1, .slice a2 l2 c2, .slice a3 l3 c3, .int .u8 (s : Nat), .slice a4 l4 c4, .slice a5 l5 c5] 25) = w0 at HBK0 HB0 ⊢
  clear hw0
  refine (HTR.out w0 HB0.out).mono ?_
  rintro e w1 ⟨rfl, hb⟩
  have HB1 := Lib.hid (HB0.out.trans (hb.mono HB0.out.size))
  have HBK1 := Lib.hid (HBK0.out.below hb HBK0.out.lt)
  clear hb
  go_wp2_with (refine wpList_load_at rfl 25 (.tmp 3) rfl w.heap.size rfl 25 #[.slice a1 l1 c1, .slice a2 l2 c2, .slice a3 l3 c3, .int .u8 (s : Nat), .slice a4 l4 c4, .slice a5 l5 c5] (0, 0) _ HBK1.out Try.underlying25 rfl (by kernel_rfl) ?_)
  refine (HRL.out w1 HB1.out).mono ?_
  rintro e w2 ⟨rfl, hb⟩
  have HB2 := Lib.hid (HB1.out.trans (hb.mono HB1.out.size))
  have HBK2 := Lib.hid (HBK1.out.below hb HBK1.out.lt)
  clear hb
  go_wp2_with fail
  refine (HLV.out w2 _ _).mono ?_
  rintro e w' ⟨rfl, rfl⟩
  go_wp2_with fail
  go_loopg [8] i (fun q iv wr => ∃ j : Nat, j + q = i ∧ j ≤ i ∧ iv = .int .i64 (j : Nat) ∧ wr = w')
  case atStart => exact ⟨0, by omega, Nat.zero_le _, rfl, rfl⟩
  case round =>
    obtain ⟨j, hj, hji, rfl, rfl⟩ := hrel
    have HJ := Lib.hid hj
    clear hj
    have hwj : wrap64 (2 * (j : Int)) = 2 * (j : Int) := wrapS (by omega) (by omega) (by omega)
    have hjt : (2 * (j : Int)).toNat = 2 * j := by omega
    by_cases hlt : j < i
    · have hltN : j < i := by omega
      have hltb : decide (j < i) = true := decide_eq_true hltN
      have hltI : decide ((j : Int) < (i : Int)) = true := decide_eq_true (by omega)
      have hjn : 2 * (j : Int) < (n : Int) := by have := HN.out; omega
      have ck := HCK.out wr HB2.out j (by omega)
      rw [HTK.out j hlt] at ck
      have ck2 : wr.cell? ⟨b, off + 2 * j * 10, none⟩ = some (.int .u8 1) := ck
      clear ck
      go_wp2_with fail
      go_roundg (gk - 1)
      case measure => have := HJ.out; omega
      case rel => exact ⟨j + 1, by have := HJ.out; omega, by omega, by go_num, rfl⟩
    · obtain rfl : i = j := by omega
      clear hlt
      have hltb : decide (i < i) = false := decide_eq_false (by omega)
      have hltI : decide ((i : Int) < (i : Int)) = false := decide_eq_false (by omega)
      have hno : ((i : Int) == 65536) = false := by rw [beq_eq_false_iff_ne]; omega
      have hno2 : ¬ ((i : Int) = 65536) := by omega
      go_wp2_with fail
      refine (HCP.out wr HB2.out).mono ?_
      rintro e w3 ⟨v3, rfl, hto, hb⟩
      have HB3 := Lib.hid (HB2.out.trans (hb.mono HB2.out.size))
      have HBK3 := HBK2.out.below hb HBK2.out.lt
      clear hb
      obtain ⟨g3, cap3, rfl, hg3B, hg3, hcap3⟩ := HSLV.out w3 v3 hto
      obtain ⟨v4, w4, hrun, htf4, hg4⟩ := HZR.out w3 _ hto HB3.out.size
      have hne3 : some w.heap.size ≠ (Value.slice (some ⟨g3, 0, none⟩) n cap3).ownBlock := by
        intro e
        simp only [Value.ownBlock, Option.some.injEq] at e
        obtain ⟨xs, k1, _⟩ := hto
        rw [← HNL.out] at k1
        obtain ⟨cur, kb, _⟩ := k1.blk
        rw [← e] at kb
        unfold Blk at kb HBK3
        rw [HBK3] at kb
        simp at kb
      have hbk4 : Blk w4 w.heap.size 25 #[.slice a1 l1 c1, .slice a2 l2 c2, .slice a3 l3 c3, .int .u8 (s : Nat), .slice a4 l4 c4, .slice a5 l5 c5] := (hg4.block w.heap.size HBK3.lt hne3).trans HBK3
      have hb4 : Below w.heap.size w w4 := HB3.out.grown hg4 HB3.out.size (fun k hk => by simp only [Value.ownBlock, Option.some.injEq] at hk; omega)
      obtain ⟨g, cap, rfl, hgB, hgl, hmc, hcm⟩ := htf4.sl (by omega)
      have hcap : cap ≤ 9223372036854775807 := by unfold maxLen at hcm; exact hcm
      have HWT4 := Lib.hid (WT.of htf4 hb4)
      have HB4 := Lib.hid hb4
      have HBK4 := Lib.hid hbk4
      have HRUN := Lib.hid hrun
      clear hto hrun htf4 hg4 hne3 hbk4 hb4 HBK3 hgB hg3B hcm
      go_wp2_with (first | (at_builtin; refine wpList_app_run rfl (.tmp 46) (.tmp 52) 22 3 rfl _ _ rfl rfl _ _ HRUN.out ?_) | (refine wpList_load_at rfl 25 (.tmp 3) rfl w.heap.size rfl 25 #[.slice a1 l1 c1, .slice a2 l2 c2, .slice a3 l3 c3, .int .u8 (s : Nat), .slice a4 l4 c4, .slice a5 l5 c5] (0, 0) _ HBK4.out Try.underlying25 rfl (by kernel_rfl) ?_))
      refine (HHD.out w4 HB4.out).mono ?_
      rintro e w5 ⟨c', rfl, hno5, hb5⟩
      obtain ⟨hcz, hco⟩ := hno5.ones
      have HS5 := Lib.hid (HST.out w4 w5 g cap c' HWT4.out hb5 hno5)
      have HTH := Lib.hid (show w5.there g (2 * i * 10) c'.size by rw [hcz]; exact (HWT4.out.below hb5).there hqm)
      have HI := Lib.hid (show (Try.prog.info? 45).map (·.size) = some c'.size by rw [hcz]; exact node_info)
      have HONE := Lib.hid (show c'.all (·.oneCell') = true by rw [← Array.all_toList]; exact hco)
      obtain ⟨w9, hw9⟩ : ∃ w9, w9 = w5.setCells g (2 * i * 10) c'.toList := ⟨_, rfl⟩
      rw [← hw9] at HS5
      have HW9 := Lib.hid hw9
      clear hno5 hb5 hcz hco hw9
      go_wp2_with (refine wpList_store_mid rfl 45 (.tmp 59) (.tmp 58) rfl g (2 * i * 10) c' rfl rfl HTH.out HI.out HONE.out ?_; rw [← HW9.out])
      refine (HPA.out w9).mono ?_
      rintro e w6 ⟨vp, rfl, hownp, hbp⟩
      have HW6 := Lib.hid ((HS5.out.below hbp).see (vp' := .slice none 0 0) (fun k hk => by simp [Value.ownBlock] at hk))
      have HWV := Lib.hid ((HS5.out.see (vp' := vp) (fun k hk => (hownp.blockLt hk).2)).below hbp)
      obtain ⟨BP, hBP⟩ : ∃ B, B = w9.heap.size := ⟨_, rfl⟩
      rw [← hBP] at hownp
      have HOP0 := Lib.hid hownp
      obtain ⟨ap, cp, hvp⟩ : ∃ a c, vp = .slice a E c := by obtain ⟨a, c, e, _⟩ := hownp.rd; rw [HPLL.out] at e; exact ⟨a, c, e⟩
      have HVP := Lib.hid hvp
      clear hownp hbp hBP
      subst hvp
      obtain ⟨vp, hvp⟩ : ∃ v, v = Value.slice ap E cp := ⟨_, rfl⟩
      have HVE := Lib.hid hvp
      rw [← hvp] at HWV HOP0
      clear HVP hvp
      go_wp2_with fail
      obtain ⟨g0, rfl⟩ : ∃ g0, g0 = gk := ⟨_, rfl⟩
      obtain ⟨w7, rfl⟩ : ∃ w7, w7 = wr := ⟨_, rfl⟩
      go_loopg [65] E (fun q iv wr => ∃ r : Nat, r + q = E ∧ iv = .int .i64 (r : Nat) ∧ WT vp w wr g cap m (P r) ∧ Own wr BP 3 vp PL)
      case atStart => exact ⟨0, by omega, rfl, HWV.out, HOP0.out⟩
      case round =>
        obtain ⟨r, hr, rfl, hwt, hop⟩ := hrel
        have HR := Lib.hid hr
        have HWT := Lib.hid hwt
        have HOP := Lib.hid hop
        by_cases hlt : r < E
        · have hlt' : decide (r < E) = true := decide_eq_true hlt
          have hltI : (r : Int) < (E : Int) := by omega
          have hrd := hop.rd
          rw [HVE.out] at hrd
          obtain ⟨bp, op, rfl, hbp2, cu⟩ := hrd.at3 (HPLG.out r hlt)
          obtain ⟨ck, hxm⟩ := HKIN.out vp wr g cap r hlt hwt
          obtain ⟨x, hx⟩ : ∃ x, x = A r := ⟨_, rfl⟩
          have HX := Lib.hid hx
          rw [← hx] at cu ck hxm
          have hkb := HKB.out x
          obtain ⟨kd, hkd⟩ : ∃ k, k = (T x).kind := ⟨_, rfl⟩
          rw [← hkd] at ck hkb
          have HKD := Lib.hid hkd
          clear hr hwt hop hrd hx hkd
          by_cases hk2 : kd = 2
          · subst hk2
            obtain ⟨xs, V, L, RL, h1, h2, h3, h4, h5, h6, h7⟩ := HRND.out vp wr g cap r hlt (by rw [← HX.out]; exact HKD.out.symm) HWT.out
            obtain ⟨F1, hF1⟩ : ∃ F, F = P r := ⟨_, rfl⟩
            obtain ⟨F2, hF2⟩ : ∃ F, F = P (r + 1) := ⟨_, rfl⟩
            rw [← hF1, ← HX.out] at h1 h7
            rw [← HX.out] at h2
            rw [← hF2] at h7
            have HF2 := Lib.hid hF2
            have HH := Lib.hid h1
            have HA := Lib.hid h2
            have HWR := Lib.hid h3
            have HPOS := Lib.hid h6
            have HFW := Lib.hid h7
            have HZ := Lib.hid (show ∀ k, vp.ownBlock = some k → k < wr.heap.size from fun k hk => (HOP.out.blockLt hk).1)
            have HPG := Lib.hid (show vp.ownBlock ≠ some g from by
              obtain ⟨cur, kb, _⟩ := HWT.out.blkG
              exact HOP.out.ne_blk kb (by decide))
            have hBS := bsearch_any V L ((i : Nat) : Int) wr h3.rd h4 (by omega)
            have hINS := fun (pos : Nat) (hp : pos ≤ L.length) (wx : World) (U : Value) (k1 : Own wx w.heap.size 3 V (ivs .i64 L)) (k2 : Own wx wr.heap.size 3 U [.int .i64 ((i : Nat) : Int)]) (k3 : w.heap.size ≤ wx.heap.size) => ins_any V U L ((i : Nat) : Int) pos w.heap.size wr.heap.size wx k1 k2 hp (by omega) k3 (fun k hk => (h2.vB k hk).2)
            have HBS := Lib.hid hBS
            have HINS0 := Lib.hid hINS
            have cl := (h1.late h2).1
            clear h1 h2 h3 h4 h5 h6 h7 hF1 hF2 hBS hINS
            go_wp2_with fail
            refine (HBS.out).mono ?_
            rintro e w8 ⟨pos, rfl, p1, p2, p3, hw8⟩
            obtain rfl := hw8.symm
            have HINS := Lib.hid (fun (wx : World) (U : Value) (k1 : Own wx w.heap.size 3 V (ivs .i64 L)) (k2 : Own wx wr.heap.size 3 U [.int .i64 ((i : Nat) : Int)]) (k3 : w.heap.size ≤ wx.heap.size) => (show Calls Try.prog 36 #[V, .int .i64 (pos : Nat), U] wx fun e w' => ∃ V', e = .returned V' ∧ InsR wx w' w.heap.size V V' RL from by
              have := HINS0.out pos p1 wx U k1 k2 k3
              rw [HPOS.out pos p1 p2 p3] at this
              exact this))
            clear p1 p2 p3
            go_wp2_with fail
            refine (HINS.out _ _ (HWR.out.alloc _) (Own.full (B := wr.heap.size) (cs := #[.int .i64 (i : Nat)]) rfl (Nat.le_refl _) (by unfold maxLen; simp) rfl) (Nat.le_trans HWT.out.low.size (by simp))).mono ?_
            rintro e w9 ⟨V', rfl, ho9, hg9, hv9⟩
            have hh9 := (HH.out.grown HA.out (World.grownBy_alloc wr (.cells #[.int .i64 (i : Nat)] 3) _)).grown HA.out hg9
            have hp9 := (HOP.out.alloc (.cells #[.int .i64 (i : Nat)] 3)).grown hg9 (fun k hk e => HA.out.vV k e hk)
            have dd := HFW.out _ (hh9.put HA.out ho9 (hv9.imp id fun ⟨k, e, hk⟩ => ⟨k, e, by simp at hk; omega⟩) HZ.out)
            have dp := hp9.setOther (a := ⟨g, x * 10 + 9, none⟩) HPG.out V'
            have d1 := (hh9.late HA.out).1
            have d2 := (hh9.late HA.out).2
            obtain ⟨q1, q2, q3, rfl⟩ := slOf ho9
            have HDD := Lib.hid dd
            have HDP := Lib.hid dp
            clear hh9 hp9 dd dp ho9 hg9 hv9
            go_wp2_with fail
            go_roundg (gk - 1)
            case measure => have := HR.out; omega
            case rel => exact ⟨r + 1, by have := HR.out; omega, by go_num, by rw [← HF2.out]; exact HDD.out, HDP.out⟩
          · have hk2' : ((kd : Int) == 2) = false := by rw [beq_eq_false_iff_ne]; omega
            have HNX := Lib.hid (HSTI.out vp wr g cap r hlt (by rw [← HX.out, ← HKD.out]; exact hk2) HWT.out)
            clear hk2
            go_wp2_with fail
            go_roundg (gk - 1)
            case measure => have := HR.out; omega
            case rel => exact ⟨r + 1, by have := HR.out; omega, by go_num, HNX.out, HOP.out⟩
        · obtain rfl : r = E := by omega
          have hlt' : decide (r < r) = false := decide_eq_false hlt
          have HF := Lib.hid (HFIN.out vp wr g cap hwt)
          have HB := Lib.hid hwt.low
          clear hr hwt hop hlt
          go_wp2_with fail
          go_ret3
          exact ⟨_, rfl, HF.out, HB.out⟩
end Go.Proofs.Ytlcmodbjbdfloaa
