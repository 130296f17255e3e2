/- Walks: the closure of hash.without, slices.IndexFunc and slices.DeleteFunc of numbers with it. -/
import Derived.Test.YtlcmodbjbdfloaaZTreeAdds36
import Derived.Test.YtlcmodbjbdfloaaZTreeAdds26
import Derived.Lib.SliceRun
import Derived.Test.YtlcmodbjbdfloaaZTreeAdds07
namespace Go.Proofs.Ytlcmodbjbdfloaa
open Go.RowKit WalkM WireM
set_option linter.unusedVariables false
/-- what the closure reads: the variable with the nodes, and their kinds -/
structure KW (W : World) (c g cap n : Nat) (F : Nat → NodeD) : Prop where
  var : W.cell? ⟨c, 0, none⟩ = some (.slice (some ⟨g, 0, none⟩) n cap)
  kind : ∀ m, 2 * m < n → W.cell? ⟨g, 2 * m * 10, none⟩ = some (.int .u8 ((F (2 * m)).kind : Nat))
  low : ∀ m, 2 * m < n → (F (2 * m)).kind < 256
theorem KW.grown {w w' : World} {c g cap n : Nat} {F : Nat → NodeD} {row : Option Nat} (h : KW w c g cap n F) (hg : w.grownBy w' row) (hc : some c ≠ row) (hgg : some g ≠ row) : KW w' c g cap n F :=
  ⟨hg.cell h.var hc, fun m hm => hg.cell (h.kind m hm) hgg, h.low⟩
/-- is the place's leaf blank? -/
def blankP (F : Nat → NodeD) (u : Int) : Bool := (F (2 * u.toNat)).kind == 0
/-- what is kept in place: the first i of M are those of the first j that are kept -/
structure DelI (p : Int → Bool) (L M : List Int) (i j : Nat) : Prop where
  len : M.length = L.length
  lt : i < j
  done : M.take i = (L.take j).filter p
  rest : ∀ r, j ≤ r → M.getD r 0 = L.getD r 0
theorem getD_get {L : List Int} {i : Nat} (h : i < L.length) : L.getD i 0 = L[i] := by rw [List.getD_eq_getElem?_getD, List.getElem?_eq_getElem h]; rfl
theorem DelI.start {p : Int → Bool} {L : List Int} {r : Nat} (hr : r < L.length) (h1 : p (L.getD r 0) = false) (h2 : ∀ i, i < r → p (L.getD i 0) = true) : DelI p L L r (r + 1) := by
  refine ⟨rfl, by omega, ?_, fun _ _ => rfl⟩
  rw [filter_take_succ L p hr, h1, if_neg (by decide), List.append_nil, List.filter_eq_self.2]
  intro x hx
  obtain ⟨i, hi, rfl⟩ := List.getElem_of_mem hx
  rw [List.length_take] at hi
  have := h2 i (by omega)
  rw [getD_get (by omega)] at this
  rw [List.getElem_take]
  exact this
theorem DelI.skip {p : Int → Bool} {L M : List Int} {i j : Nat} (h : DelI p L M i j) (hj : j < L.length) (hp : p (L.getD j 0) = false) : DelI p L M i (j + 1) := by
  refine ⟨h.len, by have := h.lt; omega, ?_, fun r hr => h.rest r (by omega)⟩
  rw [filter_take_succ L p hj, hp, if_neg (by decide), List.append_nil, h.done]
theorem DelI.keep {p : Int → Bool} {L M : List Int} {i j : Nat} (h : DelI p L M i j) (hj : j < L.length) (hp : p (L.getD j 0) = true) : DelI p L (M.set i (L.getD j 0)) (i + 1) (j + 1) := by
  have hlt := h.lt
  have hlen := h.len
  refine ⟨by rw [List.length_set]; exact hlen, by omega, ?_, fun r hr => ?_⟩
  · rw [filter_take_succ L p hj, hp, if_pos rfl, ← h.done, List.take_succ_eq_append_getElem (by rw [List.length_set]; omega), List.getElem_set_self, List.take_set_of_le (Nat.le_refl _)]
  · rw [List.getD_eq_getElem?_getD, List.getElem?_set_ne (by omega), ← List.getD_eq_getElem?_getD]
    exact h.rest r (by omega)
theorem DelI.out {p : Int → Bool} {L M : List Int} {i j : Nat} (h : DelI p L M i j) (hj : L.length ≤ j) : M.take i = L.filter p := by
  rw [h.done, List.take_of_length_le hj]
theorem ivs_set (k : IntKind) (M : List Int) (i : Nat) (u : Int) : (ivs k M).set i (.int k u) = ivs k (M.set i u) := by simp [ivs, List.map_set]
theorem ivs_get {k : IntKind} {M : List Int} {i : Nat} (h : i < M.length) : (ivs k M)[i]? = some (.int k (M.getD i 0)) := by
  rw [getD_get h]; simp [ivs, h]
/-- the slice cut, what is behind replaced -/
theorem Own.cutPut {w : World} {B gl k cp : Nat} {e : TypeId} {xs : List Value} (h : Own w B e (.slice (some ⟨gl, 0, none⟩) k cp) xs) (vs : List Value) {i : Nat} (hi : i ≤ k) (hk : xs.length = k) :
    Own (w.setCells gl i vs) B e (.slice (some ⟨gl, 0, none⟩) i cp) (xs.take i) := by
  have h1 : OwnK w B e 1 (.slice (some ⟨gl, 0, none⟩) k cp) k xs := by unfold Own at h; rw [hk] at h; exact h
  have h2 := OwnK.put vs i h1
  rcases h2.2 with ⟨h', _⟩ | ⟨g', cap', cur, h', hb, hg, hnc, hcm, hcs, htake⟩
  · simp at h'
  · simp only [Value.slice.injEq, Option.some.injEq, Addr.mk.injEq, and_true, true_and] at h'
    obtain ⟨rfl, rfl⟩ := h'
    have hl : (xs.take i).length = i := by rw [List.length_take]; omega
    unfold Own
    rw [hl]
    refine ⟨by rw [hl]; omega, .inr ⟨gl, cp, cur, rfl, hb, hg, by omega, hcm, hcs, ?_⟩⟩
    have ht2 : cur.toList.take (k * 1) = putL xs i vs := htake
    rw [Nat.mul_one] at ht2 ⊢
    have : cur.toList.take i = (putL xs i vs).take i := by rw [← ht2, List.take_take]; congr 1; omega
    rw [this]
    apply List.ext_getElem?
    intro j
    rw [List.getElem?_take, List.getElem?_take]
    by_cases hj : j < i
    · rw [if_pos hj, if_pos hj]
      have key : ∀ (vs xs : List Value) (o : Nat), j < o → (putL xs o vs)[j]? = xs[j]? := by
        intro vs
        induction vs with
        | nil => intro xs o _; rfl
        | cons v vs ih =>
          intro xs o ho
          rw [putL, ih _ _ (by omega), List.getElem?_set_ne (by omega)]
      exact key vs xs i hj
    · rw [if_neg hj, if_neg hj]
end Go.Proofs.Ytlcmodbjbdfloaa
/- Plain: a tree in new memory of which one node's late list is being changed. -/
namespace Go.Proofs.Ytlcmodbjbdfloaa
open Go.RowKit WalkM WireM
set_option linter.unusedVariables false
theorem apart2.symm {u v : Value} (h : apart2 u v) : apart2 v u := fun g hv hu => h g hu hv
/-- the cells of a node, its late list aside -/
def NodeH (w : World) (B : Nat) (d : NodeD) (c : Array Value) (V : Value) : Prop :=
  ∃ x0 x1 x2 x3 x4 u0 u1, c = #[.int .u8 (d.kind : Nat), x0, x1, x2, .int .u8 (d.leaf.source : Nat), x3, x4, u0, u1, V] ∧
    Own w B 5 x0 (bvs d.leaf.box) ∧ Own w B 5 x1 (bvs d.leaf.sign) ∧ Own w B 5 x2 (bvs d.leaf.ident) ∧ Own w B 5 x3 (bvs d.leaf.par) ∧ Own w B 5 x4 (bvs d.leaf.sig) ∧
    Own w B 5 u0 (bvs d.par.box) ∧ Own w B 5 u1 (bvs d.par.hash)
theorem NodeO.h {w : World} {B : Nat} {d : NodeD} {c : Array Value} (h : NodeO w B d c) : NodeH w B d c (c.toList.getD 9 undef) := by
  obtain ⟨x0, x1, x2, x3, x4, u0, u1, u2, rfl, h0, h1, h2, h3, h4, h5, h6, h7⟩ := h
  exact ⟨x0, x1, x2, x3, x4, u0, u1, rfl, h0, h1, h2, h3, h4, h5, h6⟩
theorem NodeH.o {w : World} {B : Nat} {d : NodeD} {c : Array Value} {V : Value} (h : NodeH w B d c V) {L : List Int} {V' : Value} (hv : Own w B 3 V' (ivs .i64 L)) : NodeO w B ⟨d.kind, d.leaf, ⟨d.par.box, d.par.hash, L⟩⟩ (c.setIfInBounds 9 V') := by
  obtain ⟨x0, x1, x2, x3, x4, u0, u1, rfl, h0, h1, h2, h3, h4, h5, h6⟩ := h
  exact ⟨x0, x1, x2, x3, x4, u0, u1, V', rfl, h0, h1, h2, h3, h4, h5, h6, hv⟩
/-- what lies in the cells lies elsewhere than V; the late list aside -/
def apartC (c : Array Value) (V : Value) : Prop := ∀ i u, c[i]? = some u → i ≠ 9 → apart2 u V
theorem apart_int {k : IntKind} {n : Int} {V : Value} : apart2 (.int k n) V := fun g hg => by simp [Value.ownBlock] at hg
theorem NodeO.apartC {w : World} {B B' : Nat} {d : NodeD} {c : Array Value} {V : Value} {ys : List Value} (h : NodeO w B d c) (hv : Own w B' 3 V ys) : apartC c V := by
  obtain ⟨x0, x1, x2, x3, x4, u0, u1, u2, rfl, h0, h1, h2, h3, h4, h5, h6, h7⟩ := h
  have key : ∀ {u : Value} {zs : List Value}, Own w B 5 u zs → apart2 u V := fun hu' => (show OwnK w B' 3 1 V ys.length ys from hv).ne hu' (by decide)
  intro i u hu hi
  match i, hu, hi with
  | 0, hu, _ => simp at hu; subst hu; exact apart_int
  | 1, hu, _ => simp at hu; subst hu; exact key h0
  | 2, hu, _ => simp at hu; subst hu; exact key h1
  | 3, hu, _ => simp at hu; subst hu; exact key h2
  | 4, hu, _ => simp at hu; subst hu; exact apart_int
  | 5, hu, _ => simp at hu; subst hu; exact key h3
  | 6, hu, _ => simp at hu; subst hu; exact key h4
  | 7, hu, _ => simp at hu; subst hu; exact key h5
  | 8, hu, _ => simp at hu; subst hu; exact key h6
  | 9, _, hi => exact absurd rfl hi
  | i + 10, hu, _ => simp at hu
theorem NodeO.grownV {w w' : World} {B : Nat} {d : NodeD} {c : Array Value} {V : Value} (h : NodeO w B d c) (hg : w.grownBy w' V.ownBlock) (ha : Go.Proofs.Ytlcmodbjbdfloaa.apartC c V) (hl : apart2 (c.toList.getD 9 undef) V) : NodeO w' B d c := by
  obtain ⟨x0, x1, x2, x3, x4, u0, u1, u2, rfl, h0, h1, h2, h3, h4, h5, h6, h7⟩ := h
  exact ⟨x0, x1, x2, x3, x4, u0, u1, u2, rfl, h0.grown hg (ha 1 x0 rfl (by decide)), h1.grown hg (ha 2 x1 rfl (by decide)), h2.grown hg (ha 3 x2 rfl (by decide)), h3.grown hg (ha 5 x3 rfl (by decide)), h4.grown hg (ha 6 x4 rfl (by decide)), h5.grown hg (ha 7 u0 rfl (by decide)), h6.grown hg (ha 8 u1 rfl (by decide)), h7.grown hg hl⟩
theorem NodeH.grownV {w w' : World} {B : Nat} {d : NodeD} {c : Array Value} {V : Value} (h : NodeH w B d c V) (hg : w.grownBy w' V.ownBlock) (ha : Go.Proofs.Ytlcmodbjbdfloaa.apartC c V) : NodeH w' B d c V := by
  obtain ⟨x0, x1, x2, x3, x4, u0, u1, rfl, h0, h1, h2, h3, h4, h5, h6⟩ := h
  exact ⟨x0, x1, x2, x3, x4, u0, u1, rfl, h0.grown hg (ha 1 x0 rfl (by decide)), h1.grown hg (ha 2 x1 rfl (by decide)), h2.grown hg (ha 3 x2 rfl (by decide)), h3.grown hg (ha 5 x3 rfl (by decide)), h4.grown hg (ha 6 x4 rfl (by decide)), h5.grown hg (ha 7 u0 rfl (by decide)), h6.grown hg (ha 8 u1 rfl (by decide))⟩
/-- a copy of a tree, in new memory, and the variable that holds it -/
structure WJ (w W : World) (c g cap n : Nat) (F : Nat → NodeD) : Prop where
  var : Blk W c 22 #[.slice (some ⟨g, 0, none⟩) n cap]
  tree : TreeF W w.heap.size (.slice (some ⟨g, 0, none⟩) n cap) n F
  low : Below w.heap.size w W
theorem WJ.congr {w W : World} {c g cap n : Nat} {F G : Nat → NodeD} (h : WJ w W c g cap n F) (e : ∀ x, x < n → G x = F x) : WJ w W c g cap n G := ⟨h.var, h.tree.congr e, h.low⟩
theorem WJ.cell {w W : World} {c g cap n : Nat} {F : Nat → NodeD} (h : WJ w W c g cap n F) : W.cell? ⟨c, 0, none⟩ = some (.slice (some ⟨g, 0, none⟩) n cap) := by rw [h.var.cell]; rfl
theorem WJ.blkG {w W : World} {c g cap n : Nat} {F : Nat → NodeD} (h : WJ w W c g cap n F) : ∃ cur, Blk W g 45 cur ∧ w.heap.size ≤ g ∧ n * 10 ≤ cur.size := by
  obtain ⟨xs, h1, h2, h3, h4⟩ := h.tree
  obtain ⟨cur, k1, k2, k3, k4⟩ := h1.blk
  exact ⟨cur, k1, k2, k4⟩
theorem WJ.ne {w W : World} {c g cap n : Nat} {F : Nat → NodeD} (h : WJ w W c g cap n F) : c ≠ g := by
  intro e
  obtain ⟨cur, k, _⟩ := h.blkG
  have := h.var
  unfold Blk at this k
  rw [e, k] at this
  simp at this
theorem WJ.there {w W : World} {c g cap n : Nat} {F : Nat → NodeD} (h : WJ w W c g cap n F) {x : Nat} (hx : x < n) : W.there g (x * 10) 10 := by
  obtain ⟨cur, k1, k2, k3⟩ := h.blkG
  exact k1.there _ _ (by omega)
theorem WJ.blank {w W : World} {c g cap n : Nat} {F : Nat → NodeD} (h : WJ w W c g cap n F) {x : Nat} (hx : x < n) :
    WJ w (W.setCells g (x * 10) [.int .u8 0, .slice none 0 0, .slice none 0 0, .slice none 0 0, .int .u8 0, .slice none 0 0, .slice none 0 0, .slice none 0 0, .slice none 0 0, .slice none 0 0]) c g cap n (fun y => if y = x then noNodeD else F y) := by
  obtain ⟨cur, k1, k2, k3⟩ := h.blkG
  have hg := grownBy_setCells (w := W) (g := g) [.int .u8 0, .slice none 0 0, .slice none 0 0, .slice none 0 0, .int .u8 0, .slice none 0 0, .slice none 0 0, .slice none 0 0, .slice none 0 0, .slice none 0 0] (x * 10)
  refine ⟨?_, ?_, h.low.grown hg h.low.size (fun k hk => by simp only [Option.some.injEq] at hk; omega)⟩
  · exact (hg.block c h.var.lt (fun e => h.ne (by simpa using e))).trans h.var
  · have := h.tree.blank hx
    rw [Nat.mul_comm 10 x] at this
    exact this
/-- one node's late list may be changed meanwhile -/
structure HoleI (w W : World) (c g cap n : Nat) (F : Nat → NodeD) (xs : List Value) (x : Nat) (V : Value) : Prop where
  own : OwnK W w.heap.size 45 10 (.slice (some ⟨g, 0, none⟩) n cap) n xs
  nodes : ∀ j, j < n → j ≠ x → NodeO W w.heap.size (F j) (cellsAt xs j).toArray
  hole : NodeH W w.heap.size (F x) (cellsAt xs x).toArray V
  kw : KW W c g cap n F
  var : Blk W c 22 #[.slice (some ⟨g, 0, none⟩) n cap]
  low : Below w.heap.size w W
structure HoleA (B c g n : Nat) (xs : List Value) (x : Nat) (V : Value) : Prop where
  len : xs.length = 10 * n
  hx : x < n
  cg : c ≠ g
  ap : ∀ j, j < n → Go.Proofs.Ytlcmodbjbdfloaa.apartC (cellsAt xs j).toArray V
  late : ∀ j, j < n → j ≠ x → apart2 (lateV xs j) V
  pair : ∀ j k, j < k → k < n → apart2 (lateV xs j) (lateV xs k)
  vc : some c ≠ V.ownBlock
  vg : some g ≠ V.ownBlock
  vB : ∀ k, V.ownBlock = some k → B ≤ k
  lv : xs[x * 10 + 9]? = some V
theorem HoleI.grown {w W W' : World} {c g cap n : Nat} {F : Nat → NodeD} {xs : List Value} {x : Nat} {V : Value} (h : HoleI w W c g cap n F xs x V) (a : HoleA w.heap.size c g n xs x V) (hg : W.grownBy W' V.ownBlock) : HoleI w W' c g cap n F xs x V :=
  ⟨World.ownsRow.kept h.own hg (.inr (fun e => a.vg e)), fun j hj hne => (h.nodes j hj hne).grownV hg (a.ap j hj) (a.late j hj hne), h.hole.grownV hg (a.ap x a.hx), h.kw.grown hg a.vc a.vg, (hg.block c h.var.lt a.vc).trans h.var, h.low.grown hg h.low.size a.vB⟩
theorem HoleI.late {w W : World} {c g cap n : Nat} {F : Nat → NodeD} {xs : List Value} {x : Nat} {V : Value} (h : HoleI w W c g cap n F xs x V) (a : HoleA w.heap.size c g n xs x V) : W.cell? ⟨g, x * 10 + 9, none⟩ = some V ∧ W.frozen? ⟨g, x * 10 + 9, none⟩ = false := by
  have hx := a.hx
  refine ⟨?_, World.ownsRow.frozenAt h.own _⟩
  rw [World.ownsRow.cellAt h.own _ (by omega)]
  exact a.lv
theorem HoleI.put {w W : World} {c g cap n : Nat} {F : Nat → NodeD} {xs : List Value} {x : Nat} {V V' : Value} {L : List Int} (h : HoleI w W c g cap n F xs x V) (a : HoleA w.heap.size c g n xs x V) (ho : Own W w.heap.size 3 V' (ivs .i64 L)) (hob : V'.ownBlock = V.ownBlock) :
    WJ w (W.setCell ⟨g, x * 10 + 9, none⟩ V') c g cap n (fun y => if y = x then ⟨(F x).kind, (F x).leaf, ⟨(F x).par.box, (F x).par.hash, L⟩⟩ else F y) := by
  have hs := World.ownsRow.stored h.own (x * 10 + 9) V'
  obtain ⟨cur, hb, hBg, _⟩ := h.own.blk
  have hcs := fun j => cellsAt_set a.len a.hx 9 (by omega) V' j
  rw [Nat.mul_comm 10 x] at hcs
  have ap1 : ∀ j, j < n → j ≠ x → apart2 (lateV xs j) V' := fun j hj hne g' hg' => by rw [hob]; exact a.late j hj hne g' hg'
  have hl : (cellsAt xs x).length = 10 := by
    have := a.len
    have := a.hx
    unfold cellsAt; rw [List.length_take, List.length_drop]; omega
  refine ⟨(hs.2.block c h.var.lt (fun e => a.cg (by simpa using e))).trans h.var, ⟨xs.set (x * 10 + 9) V', hs.1, by rw [List.length_set]; exact a.len, fun j hj => ?_, fun j k hjk hk => ?_⟩, h.low.grown hs.2 h.low.size (fun k hk => by simp only [Option.some.injEq] at hk; omega)⟩
  · rw [hcs j]
    by_cases e : j = x
    · subst e
      simp only [if_true]
      rw [show ((cellsAt xs j).set 9 V').toArray = (cellsAt xs j).toArray.setIfInBounds 9 V' by simp]
      exact (h.hole.o ho).grownA hb hs.2
    · simp only [e, if_false]
      exact (h.nodes j hj e).grownA hb hs.2
  · have e9 : ((cellsAt xs x).set 9 V').getD 9 undef = V' := by rw [List.getD_eq_getElem?_getD, List.getElem?_set_self (by omega)]; rfl
    unfold lateV
    rw [hcs j, hcs k]
    by_cases e1 : j = x
    · subst e1
      rw [if_pos rfl, if_neg (by omega), e9]
      exact (ap1 k hk (by omega)).symm
    · rw [if_neg e1]
      by_cases e2 : k = x
      · subst e2
        rw [if_pos rfl, e9]
        exact ap1 j (by omega) e1
      · rw [if_neg e2]; exact a.pair j k hjk hk
theorem WJ.kw {w W : World} {c g cap n : Nat} {F : Nat → NodeD} (h : WJ w W c g cap n F) (hk : ∀ x, x < n → (F x).kind < 256) : KW W c g cap n F := by
  refine ⟨h.cell, fun m hm => ?_, fun m hm => hk _ hm⟩
  obtain ⟨cs, k1, k2, k3, _⟩ := h.tree.at hm
  have := k3 0 _ k2.c.kind
  rw [Nat.add_zero, Nat.mul_comm 10] at this
  exact this
/-- the late list of a node may be changed -/
theorem WJ.hole {w W : World} {c g cap n : Nat} {F : Nat → NodeD} (h : WJ w W c g cap n F) (hk : ∀ x, x < n → (F x).kind < 256) {x : Nat} (hx : x < n) :
    ∃ xs V, HoleI w W c g cap n F xs x V ∧ HoleA w.heap.size c g n xs x V ∧ Own W w.heap.size 3 V (ivs .i64 (F x).par.late) := by
  have hkw := h.kw hk
  have hne := h.ne
  have hvar := h.var
  obtain ⟨curg, hbg, _, _⟩ := h.blkG
  obtain ⟨xs, h1, h2, h3, h4⟩ := h.tree
  have hnx := h3 x hx
  have hv := hnx.late
  have hl : (cellsAt xs x).length = 10 := by unfold cellsAt; rw [List.length_take, List.length_drop]; omega
  refine ⟨xs, lateV xs x, ⟨h1, fun j hj _ => h3 j hj, hnx.h, hkw, h.var, h.low⟩, ⟨h2, hx, hne, fun j hj => (h3 j hj).apartC hv, fun j hj e => ?_, h4, ?_, ?_, fun k hk => (hv.blockLt hk).2, ?_⟩, hv⟩
  · rcases Nat.lt_or_ge j x with hlt | hge
    · exact h4 j x hlt hx
    · exact (h4 x j (by omega) hj).symm
  · intro e
    exact hv.ne_blk hvar (by decide) e.symm
  · intro e
    exact hv.ne_blk hbg (by decide) e.symm
  · have e : (cellsAt xs x)[9]? = some (lateV xs x) := by
      unfold lateV
      rw [List.getD_eq_getElem?_getD, List.getElem?_eq_getElem (by omega)]; rfl
    have := cellsAt_get h2 hx e
    rw [Nat.mul_comm] at this
    exact this
end Go.Proofs.Ytlcmodbjbdfloaa
