/- Plain: an own copy of a tree of which some nodes are replaced; lists out of functions. -/
import Derived.Test.YtngealmhgkoaiaaGreatZTreeBytes25
import Derived.Test.YtngealmhgkoaiaaGreatZTreeBytes20
import Derived.Laws.OwnMore
import Derived.Test.YtngealmhgkoaiaaGreatZTreeBytes22
import Derived.Test.YtngealmhgkoaiaaGreatZTreeBytes08
namespace Go.Proofs.YtngealmhgkoaiaaGreat
open Go.RowKit WalkM WireM
set_option linter.unusedVariables false
theorem lateB_pw {L : List Int} : lateB L = true ↔ L.Pairwise (· < ·) ∧ ∀ x ∈ L, 0 ≤ x ∧ x < 65536 := by
  constructor
  · intro h
    refine ⟨?_, late_bd h⟩
    rw [lateB_iff] at h
    have key : ∀ j, ∀ i, i < j → j < L.length → L.getD i 0 < L.getD j 0 := by
      intro j
      induction j with
      | zero => intro i hi; omega
      | succ j ih =>
        intro i hi hj
        have h1 := (h (j + 1) hj).1
        unfold prevZ at h1
        rw [if_neg (by omega), Nat.add_sub_cancel] at h1
        by_cases e : i = j
        · subst e; exact h1
        · have := ih i (by omega) (by omega); omega
    rw [List.pairwise_iff_getElem]
    intro i j hi hj hij
    have := key j i hij hj
    simpa [List.getD_eq_getElem?_getD, hi, hj] using this
  · rintro ⟨h1, h2⟩
    rw [lateB_iff]
    intro i hi
    have hb := h2 _ (List.getElem_mem hi)
    have e : L.getD i 0 = L[i] := by simp [List.getD_eq_getElem?_getD, hi]
    rw [e]
    refine ⟨?_, hb.2⟩
    unfold prevZ
    split
    · omega
    · have := (List.pairwise_iff_getElem.1 h1) (i - 1) i (by omega) hi (by omega)
      rw [show L.getD (i - 1) 0 = L[i - 1] by simp [List.getD_eq_getElem?_getD, show i - 1 < L.length by omega]]
      exact this
theorem lateB_filter {L : List Int} (h : lateB L = true) (p : Int → Bool) : lateB (L.filter p) = true := by
  rw [lateB_pw] at h ⊢
  exact ⟨h.1.filter p, fun x hx => h.2 x (List.mem_filter.1 hx).1⟩
theorem rightB_late {d : NodeD} (h : rightB d = true) (p : Int → Bool) : rightB ⟨d.kind, d.leaf, ⟨d.par.box, d.par.hash, d.par.late.filter p⟩⟩ = true := by
  by_cases hk : d.kind = 2
  · unfold rightB at h ⊢
    simp only [hk, if_true, if_false, Nat.reduceEqDiff] at h ⊢
    rw [Bool.and_eq_true] at h ⊢
    refine ⟨h.1, ?_⟩
    have h2 := h.2
    rw [rpB, Bool.and_eq_true] at h2 ⊢
    exact ⟨lateB_filter h2.1 p, h2.2⟩
  · have hl := right_nolate h hk
    obtain ⟨k, l, b, hh, la⟩ := d
    simp only at hl
    subst hl
    exact h
/-- a list out of a function -/
def listT (n : Nat) (F : Nat → NodeD) : List NodeD := (List.range n).map F
theorem listT_len (n : Nat) (F : Nat → NodeD) : (listT n F).length = n := by simp [listT]
theorem listT_nd {n : Nat} {F : Nat → NodeD} {x : Nat} (h : x < n) : nd (listT n F) x = F x := by
  simp [nd, listT, List.getD_eq_getElem?_getD, h]
theorem listT_self (t : List NodeD) : listT t.length (nd t) = t := by
  apply List.ext_getElem
  · rw [listT_len]
  · intro i h1 h2
    simp [listT, nd, List.getD_eq_getElem?_getD, h2]
theorem listT_congr {n : Nat} {F G : Nat → NodeD} (h : ∀ x, x < n → F x = G x) : listT n F = listT n G := by
  unfold listT
  exact List.map_congr_left fun x hx => h x (List.mem_range.1 hx)
theorem listT_small {n : Nat} {F : Nat → NodeD} (hn : n ≤ 40) (h : ∀ x, x < n → smallB (F x) = true) : smallT (listT n F) = true := by
  rw [smallT, Bool.and_eq_true, listT_len]
  refine ⟨decide_eq_true hn, List.all_eq_true.2 fun d hd => ?_⟩
  obtain ⟨x, hx, rfl⟩ := List.mem_map.1 hd
  exact h x (List.mem_range.1 hx)
theorem listT_ok {n : Nat} {F : Nat → NodeD} (h : ∀ x, x < n → NodeOk (F x)) : TreeOk (listT n F) := by
  intro d hd
  obtain ⟨x, hx, rfl⟩ := List.mem_map.1 hd
  exact h x (List.mem_range.1 hx)
theorem listT_placed {n : Nat} {F : Nat → NodeD} (h : ∀ x, x < n → (F x).kind ≠ otherK x ∧ rightB (F x) = true) : placedB (listT n F) = true := by
  rw [placedB_iff, listT_len]
  intro x hx
  rw [listT_nd hx]
  exact h x hx
/-- some cells of a list replaced -/
def putL (xs : List Value) (o : Nat) : List Value → List Value
  | [] => xs
  | v :: vs => putL (xs.set o v) (o + 1) vs
theorem putL_len : ∀ (vs xs : List Value) (o : Nat), (putL xs o vs).length = xs.length
  | [], _, _ => rfl
  | v :: vs, xs, o => by rw [putL, putL_len vs, List.length_set]
theorem putL_get : ∀ (vs xs : List Value) (o : Nat), o + vs.length ≤ xs.length → ∀ j, (putL xs o vs)[j]? = if o ≤ j ∧ j < o + vs.length then vs[j - o]? else xs[j]?
  | [], xs, o, _, j => by rw [putL, if_neg (by simp)]
  | v :: vs, xs, o, h, j => by
    rw [List.length_cons] at h
    rw [putL, putL_get vs (xs.set o v) (o + 1) (by rw [List.length_set]; omega) j, List.length_cons]
    by_cases h1 : o + 1 ≤ j ∧ j < o + 1 + vs.length
    · rw [if_pos h1, if_pos (by omega), show j - o = (j - (o + 1)) + 1 by omega, List.getElem?_cons_succ]
    · rw [if_neg h1]
      by_cases h2 : j = o
      · subst h2
        rw [if_pos (by omega), Nat.sub_self, List.getElem?_cons_zero, List.getElem?_set_self (by omega)]
      · rw [if_neg (by omega), List.getElem?_set_ne (fun e => h2 e.symm)]
theorem cellsAt_get? (xs : List Value) (j k : Nat) : (cellsAt xs j)[k]? = if k < 10 then xs[10 * j + k]? else none := by
  unfold cellsAt
  rw [List.getElem?_take, List.getElem?_drop]
theorem cellsAt_put {xs vs : List Value} {n x : Nat} (h : xs.length = 10 * n) (hx : x < n) (hv : vs.length = 10) (j : Nat) : cellsAt (putL xs (10 * x) vs) j = if j = x then vs else cellsAt xs j := by
  apply List.ext_getElem?
  intro k
  rw [cellsAt_get?]
  by_cases hk : k < 10
  · rw [if_pos hk, putL_get _ _ _ (by omega)]
    by_cases e : j = x
    · subst e
      rw [if_pos (by omega), if_pos rfl]
      congr 1
      omega
    · rw [if_neg (by omega), if_neg e, cellsAt_get?, if_pos hk]
  · rw [if_neg hk]
    by_cases e : j = x
    · rw [if_pos e, List.getElem?_eq_none (by omega)]
    · rw [if_neg e, cellsAt_get?, if_neg hk]
theorem cellsAt_set {xs : List Value} {n x : Nat} (h : xs.length = 10 * n) (hx : x < n) (k : Nat) (hk : k < 10) (u : Value) (j : Nat) : cellsAt (xs.set (10 * x + k) u) j = if j = x then (cellsAt xs x).set k u else cellsAt xs j := by
  apply List.ext_getElem?
  intro i
  rw [cellsAt_get?]
  by_cases hi : i < 10
  · rw [if_pos hi]
    by_cases e : j = x
    · subst e
      rw [if_pos rfl]
      by_cases ek : i = k
      · subst ek
        rw [List.getElem?_set_self (by omega), List.getElem?_set_self (by unfold cellsAt; rw [List.length_take, List.length_drop]; omega)]
      · rw [List.getElem?_set_ne (by omega), List.getElem?_set_ne (fun e => ek e.symm), cellsAt_get?, if_pos hi]
    · rw [if_neg e, List.getElem?_set_ne (by omega), cellsAt_get?, if_pos hi]
  · rw [if_neg hi]
    by_cases e : j = x
    · rw [if_pos e, List.getElem?_eq_none (by rw [List.length_set]; unfold cellsAt; rw [List.length_take]; omega)]
    · rw [if_neg e, cellsAt_get?, if_neg hi]
theorem OwnK.put {B : Nat} {e : TypeId} {k g n cap : Nat} : ∀ (vs : List Value) (o : Nat) {w : World} {xs : List Value}, OwnK w B e k (.slice (some ⟨g, 0, none⟩) n cap) n xs → OwnK (w.setCells g o vs) B e k (.slice (some ⟨g, 0, none⟩) n cap) n (putL xs o vs)
  | [], _, _, _, h => h
  | v :: vs, o, w, xs, h => by
    rw [World.setCells, putL]
    exact OwnK.put vs (o + 1) (World.ownsRow.stored h o v).1
theorem OwnK.blk {w : World} {B : Nat} {e : TypeId} {k g n cap : Nat} {xs : List Value} (h : OwnK w B e k (.slice (some ⟨g, 0, none⟩) n cap) n xs) : ∃ cur, Blk w g e cur ∧ B ≤ g ∧ g < w.heap.size ∧ n * k ≤ cur.size := by
  rcases h.2 with ⟨h', _⟩ | ⟨g', cap', cur, h', hb, hg, hnc, hcm, hcs, htake⟩
  · simp at h'
  · simp only [Value.slice.injEq, Option.some.injEq, Addr.mk.injEq, and_true, true_and] at h'
    obtain ⟨rfl, rfl⟩ := h'
    refine ⟨cur, hg, hb, Blk.lt hg, ?_⟩
    rw [hcs]
    exact Nat.mul_le_mul_right _ hnc
/-- a tree in new memory, as a function -/
def TreeF (w : World) (B : Nat) (v : Value) (n : Nat) (F : Nat → NodeD) : Prop :=
  ∃ xs, OwnK w B 54 10 v n xs ∧ xs.length = 10 * n ∧ (∀ j, j < n → NodeO w B (F j) (cellsAt xs j).toArray) ∧ ∀ j k, j < k → k < n → apart2 (lateV xs j) (lateV xs k)
theorem TreeF.o {w : World} {B : Nat} {v : Value} {n : Nat} {F : Nat → NodeD} (h : TreeF w B v n F) : TreeO w B v (listT n F) := by
  obtain ⟨xs, h1, h2, h3, h4⟩ := h
  refine ⟨xs, by rw [listT_len]; exact h1, ?_⟩
  rw [listT_len]
  exact ⟨h2, fun j hj => by rw [listT_nd hj]; exact h3 j hj, h4⟩
theorem TreeO.f {w : World} {B : Nat} {v : Value} {t : List NodeD} (h : TreeO w B v t) : TreeF w B v t.length (nd t) := by
  obtain ⟨xs, h1, h2, h3, h4⟩ := h
  exact ⟨xs, h1, h2, h3, h4⟩
theorem TreeF.congr {w : World} {B : Nat} {v : Value} {n : Nat} {F G : Nat → NodeD} (h : TreeF w B v n F) (e : ∀ x, x < n → G x = F x) : TreeF w B v n G := by
  obtain ⟨xs, h1, h2, h3, h4⟩ := h
  exact ⟨xs, h1, h2, fun j hj => by rw [e j hj]; exact h3 j hj, h4⟩
theorem TreeF.below {w w' : World} {B B' : Nat} {v : Value} {n : Nat} {F : Nat → NodeD} (h : TreeF w B v n F) (hb : Below B' w w') (hB : w.heap.size ≤ B') : TreeF w' B v n F := by
  obtain ⟨xs, h1, h2, h3, h4⟩ := h
  exact ⟨xs, h1.below hb hB, h2, fun j hj => (h3 j hj).below hb hB, h4⟩
theorem TreeF.alloc {w : World} {B : Nat} {v : Value} {n : Nat} {F : Nat → NodeD} (h : TreeF w B v n F) (o : Obj) : TreeF (w.alloc o) B v n F := h.below ((Below.refl _ _).alloc (Nat.le_refl _) o) (Nat.le_refl _)
theorem TreeF.sl {w : World} {B : Nat} {v : Value} {n : Nat} {F : Nat → NodeD} (h : TreeF w B v n F) (hn : 0 < n) : ∃ g cap, v = .slice (some ⟨g, 0, none⟩) n cap ∧ B ≤ g ∧ g < w.heap.size ∧ n ≤ cap ∧ cap ≤ maxLen := by
  obtain ⟨xs, h1, h2, h3, h4⟩ := h
  obtain ⟨g, cap, e, k1, k2, k3, k4, _⟩ := h1.out hn
  exact ⟨g, cap, e, k1, k2, k3, k4⟩
/-- the cells of a node in place -/
theorem TreeF.at {w : World} {B g cap : Nat} {n : Nat} {F : Nat → NodeD} (h : TreeF w B (.slice (some ⟨g, 0, none⟩) n cap) n F) {x : Nat} (hx : x < n) : ∃ cs : Array Value, cs.size = 10 ∧ NodeO w B (F x) cs ∧ w.rangeAt g (10 * x) cs.toList ∧ w.there g (10 * x) 10 := by
  obtain ⟨xs, h1, h2, h3, h4⟩ := h
  have hno := h3 x hx
  have hsz : (cellsAt xs x).length = 10 := by unfold cellsAt; rw [List.length_take, List.length_drop]; omega
  obtain ⟨cur, hb, hB, hl, hcs⟩ := h1.blk
  refine ⟨_, by simpa using hsz, hno, ?_, hb.there _ _ (by omega)⟩
  intro j u hu
  obtain ⟨g', cap', e, _, _, _, _, hc, _⟩ := h1.out (by omega)
  simp only [Value.slice.injEq, Option.some.injEq, Addr.mk.injEq, and_true, true_and] at e
  obtain ⟨rfl, rfl⟩ := e
  exact hc _ u (cellsAt_get h2 hx (by simpa using hu))
theorem NodeO.grownA {w w' : World} {B g : Nat} {d : NodeD} {c cur : Array Value} (h : NodeO w B d c) (hb : Blk w g 54 cur) (hg : w.grownBy w' (some g)) : NodeO w' B d c :=
  h.keep fun e v xs he hu => hu.grown hg fun g' hg' => by
    intro e2
    have := hu.ne_blk hb he
    rw [hg'] at this
    exact this e2.symm
theorem grownBy_setCells {w : World} {g : Nat} (vs : List Value) (o : Nat) : w.grownBy (w.setCells g o vs) (some g) := by
  have h := onlyG_setCells g vs o w
  exact ⟨h.1.1, h.1.2, h.1.3, h.2.1, fun k hk hne => h.2.2 k hk fun e => hne (by rw [e])⟩
theorem noNode_o (w : World) (B : Nat) : NodeO w B noNodeD #[.int .u8 0, .slice none 0 0, .slice none 0 0, .slice none 0 0, .int .u8 0, .slice none 0 0, .slice none 0 0, .slice none 0 0, .slice none 0 0, .slice none 0 0] :=
  ⟨_, _, _, _, _, _, _, _, rfl, Own.nil _ _ _, Own.nil _ _ _, Own.nil _ _ _, Own.nil _ _ _, Own.nil _ _ _, Own.nil _ _ _, Own.nil _ _ _, Own.nil _ _ _⟩
/-- a node is replaced by new cells -/
theorem TreeF.put {w : World} {B g cap : Nat} {n : Nat} {F : Nat → NodeD} (h : TreeF w B (.slice (some ⟨g, 0, none⟩) n cap) n F) {x : Nat} (hx : x < n) {d : NodeD} {cs : Array Value} (hc : cs.size = 10) (hd : NodeO w B d cs)
    (hap : ∀ xs, (∀ y, y < n → y ≠ x → NodeO w B (F y) (cellsAt xs y).toArray) → ∀ y, y < n → y ≠ x → apart2 (lateV xs y) (cs.toList.getD 9 undef) ∧ apart2 (cs.toList.getD 9 undef) (lateV xs y)) :
    TreeF (w.setCells g (10 * x) cs.toList) B (.slice (some ⟨g, 0, none⟩) n cap) n (fun y => if y = x then d else F y) := by
  obtain ⟨xs, h1, h2, h3, h4⟩ := h
  obtain ⟨cur, hb, hB, hl, hcs⟩ := h1.blk
  have hg := grownBy_setCells (w := w) (g := g) cs.toList (10 * x)
  have hc' : cs.toList.length = 10 := by simpa using hc
  have hcell := fun j => cellsAt_put (vs := cs.toList) h2 hx hc' j
  have hap := hap xs fun y hy _ => h3 y hy
  refine ⟨putL xs (10 * x) cs.toList, h1.put _ _, by rw [putL_len]; exact h2, fun j hj => ?_, fun j k hjk hk => ?_⟩
  · rw [hcell j]
    by_cases e : j = x
    · simp only [e, if_true]; exact hd.grownA hb hg
    · simp only [e, if_false]; exact (h3 j hj).grownA hb hg
  · unfold lateV
    rw [hcell j, hcell k]
    by_cases e1 : j = x
    · subst e1
      rw [if_pos rfl, if_neg (by omega)]
      exact (hap k hk (by omega)).2
    · rw [if_neg e1]
      by_cases e2 : k = x
      · subst e2
        rw [if_pos rfl]
        exact (hap j (by omega) e1).1
      · rw [if_neg e2]; exact h4 j k hjk hk
theorem TreeF.blank {w : World} {B g cap : Nat} {n : Nat} {F : Nat → NodeD} (h : TreeF w B (.slice (some ⟨g, 0, none⟩) n cap) n F) {x : Nat} (hx : x < n) :
    TreeF (w.setCells g (10 * x) [.int .u8 0, .slice none 0 0, .slice none 0 0, .slice none 0 0, .int .u8 0, .slice none 0 0, .slice none 0 0, .slice none 0 0, .slice none 0 0, .slice none 0 0]) B (.slice (some ⟨g, 0, none⟩) n cap) n (fun y => if y = x then noNodeD else F y) :=
  h.put hx (cs := #[.int .u8 0, .slice none 0 0, .slice none 0 0, .slice none 0 0, .int .u8 0, .slice none 0 0, .slice none 0 0, .slice none 0 0, .slice none 0 0, .slice none 0 0]) rfl (noNode_o _ _) fun xs _ y hy _ => ⟨fun g _ h2 => by simp [Value.ownBlock] at h2, fun g h2 => by simp [Value.ownBlock] at h2⟩
end Go.Proofs.YtngealmhgkoaiaaGreat
/- Plain: what node.Take takes of bytes; of a node's own bytes it takes that node. -/
namespace Go.Proofs.YtngealmhgkoaiaaGreat
open Go.RowKit WireM
set_option linter.unusedVariables false
/-- a leaf that stands next: the error, the leaf, what is left, the reader's error -/
def tkLeaf (L : List Nat) (er : Nat) : Nat × LeafD × List Nat × Nat :=
  let r1 := vecF L er
  let r2 := vecF r1.2.1 r1.2.2
  let r3 := vecF r2.2.1 r2.2.2
  let r4 := numF r3.2.1 r3.2.2 1
  let s := numV r4.1
  if r4.2.2 ≠ 0 then (r4.2.2, noLeafD, r4.2) else
  if s < 1 ∨ 3 < s then (3, noLeafD, r4.2) else
  let r5 := if s = 3 then vecF r4.2.1 r4.2.2 else ([], r4.2)
  let r6 := vecF r5.2.1 r5.2.2
  if r6.2.2 ≠ 0 then (r6.2.2, noLeafD, r6.2) else
  if leafOkB ⟨r1.1, r2.1, r3.1, s, r5.1, r6.1⟩ = true then (0, ⟨r1.1, r2.1, r3.1, s, r5.1, r6.1⟩, r6.2) else (3, noLeafD, r6.2)
/-- numbers of four bytes each -/
def latN : Nat → List Nat → List Int
  | 0, _ => []
  | k + 1, L => if 4 ≤ L.length then ((numV (L.take 4) : Nat) : Int) :: latN k (L.drop 4) else []
/-- a parent that stands next -/
def tkPar (L : List Nat) (er : Nat) : Nat × ParD × List Nat × Nat :=
  let r1 := vecF L er
  let r2 := vecF r1.2.1 r1.2.2
  let r3 := vecF r2.2.1 r2.2.2
  if r3.2.2 ≠ 0 then (r3.2.2, noParD, r3.2) else
  let l := latN r3.1.length r3.1
  if r3.1.length % 4 = 0 ∧ rpB r1.1.length r2.1.length l = true then (0, ⟨r1.1, r2.1, l⟩, r3.2) else (3, noParD, r3.2)
/-- a node that stands next -/
def tkNode (L : List Nat) (er : Nat) : Nat × NodeD × List Nat × Nat :=
  let r := numF L er 1
  let k := numV r.1
  if r.2.2 ≠ 0 then (r.2.2, noNodeD, r.2) else
  if k = 0 then (0, noNodeD, r.2) else
  if k = 1 then (let q := tkLeaf r.2.1 r.2.2; if q.1 = 0 then (0, ⟨1, q.2.1, noParD⟩, q.2.2) else (q.1, noNodeD, q.2.2)) else
  if k = 2 then (let q := tkPar r.2.1 r.2.2; if q.1 = 0 then (0, ⟨2, noLeafD, q.2.1⟩, q.2.2) else (q.1, noNodeD, q.2.2)) else
  (3, noNodeD, r.2)
theorem vecB_put {v : List Nat} (hv : v.length ≤ 1000) (R : List Nat) : vecF (vecB v ++ R) 0 = (v, R, 0) := vecF_put (by omega) R
theorem num1_put {s : Nat} (hs : s < 256) (R : List Nat) : numF (s :: R) 0 1 = ([s], R, 0) := by
  have := numF_put (s := 1) (n := s) (by decide) R
  have e : beN 1 s = [s] := by unfold beN beN; simp; omega
  rw [e] at this
  simpa using this
theorem numV1 (s : Nat) : numV [s] = s := by simp [numV]
theorem tkLeaf_put {d : LeafD} (h : leafOkB d = true) (R : List Nat) : tkLeaf (unsB d ++ vecB d.sig ++ R) 0 = (0, d, R, 0) := by
  have h' := h
  unfold leafOkB rlB at h'
  have hb := of_decide_eq_true h'
  obtain ⟨b1, b2, b3, b4, b5, b6, b7, b8⟩ := hb
  unfold tkLeaf unsB catB
  simp only [List.map_cons, List.map_nil, List.flatten_cons, List.flatten_nil, List.append_nil, List.append_assoc]
  rw [vecB_put (by omega)]
  simp only
  rw [vecB_put (by omega)]
  simp only
  rw [vecB_put (by omega)]
  simp only [List.cons_append, List.nil_append]
  rw [num1_put (by omega)]
  simp only [numV1, ne_eq, not_true_eq_false, if_false]
  rw [if_neg (by omega)]
  by_cases hs : d.source = 3
  · simp only [hs, if_true]
    rw [vecB_put (by omega)]
    simp only
    rw [vecB_put (by omega)]
    simp only [not_true_eq_false, if_false]
    have e : (⟨d.box, d.sign, d.ident, 3, d.par, d.sig⟩ : LeafD) = d := by rw [← hs]
    rw [e, h]
    simp
  · simp only [hs, if_false, List.nil_append]
    rw [vecB_put (by omega)]
    simp only [not_true_eq_false, if_false]
    have hp : d.par = [] := List.eq_nil_of_length_eq_zero (by omega)
    have e : (⟨d.box, d.sign, d.ident, d.source, [], d.sig⟩ : LeafD) = d := by rw [← hp]
    rw [e, h]
    simp
theorem latN_put : ∀ (L : List Int) (k : Nat), L.length ≤ k → (∀ x ∈ L, 0 ≤ x ∧ x < 65536) → latN k (lateL L) = L
  | [], k, _, _ => by cases k <;> rfl
  | x :: L, 0, h, _ => by simp at h
  | x :: L, k + 1, h, hb => by
    have hx := hb x (by simp)
    have e : lateL (x :: L) = beN 4 x.toNat ++ lateL L := by simp [lateL]
    unfold latN
    rw [e, if_pos (by rw [List.length_append, beN_len]; omega)]
    have h4 : (beN 4 x.toNat).length = 4 := beN_len _ _
    rw [List.take_append_of_le_length (by omega), List.take_of_length_le (by omega), List.drop_append_of_le_length (by omega), List.drop_of_length_le (by omega), List.nil_append]
    rw [latN_put L k (by simp at h; omega) fun y hy => hb y (List.mem_cons_of_mem _ hy), numV_beN]
    congr 1
    omega
theorem tkPar_put {p : ParD} (h : rpB p.box.length p.hash.length p.late = true) (hl : p.late.length ≤ 200) (R : List Nat) : tkPar (parB p ++ R) 0 = (0, p, R, 0) := by
  have h' := h
  unfold rpB at h'
  rw [Bool.and_eq_true] at h'
  have hb := of_decide_eq_true h'.2
  have hlt := lateB_pw.1 h'.1
  unfold tkPar parB
  simp only [List.append_assoc]
  rw [vecB_put (by omega)]
  simp only
  rw [vecB_put (by omega)]
  simp only
  rw [vecB_put (by rw [lateL_len]; omega)]
  simp only [ne_eq, not_true_eq_false, if_false]
  rw [latN_put _ _ (by rw [lateL_len]; omega) hlt.2, h, lateL_len, if_pos ⟨by omega, rfl⟩]
theorem tkNode_put {d : NodeD} (h : rightB d = true) (hl : d.par.late.length ≤ 200) (R : List Nat) : tkNode (nodeB d ++ R) 0 = (0, d, R, 0) := by
  unfold rightB at h
  unfold tkNode nodeB
  obtain ⟨k, l, p⟩ := d
  simp only at h hl ⊢
  by_cases h0 : k = 0
  · subst h0
    simp only [if_true] at h
    rw [Bool.and_eq_true] at h
    have h1 := of_decide_eq_true h.1
    have h2 := of_decide_eq_true h.2
    simp only [if_neg (show ¬ (0 = 1) by omega), if_neg (show ¬ (0 = 2) by omega), List.cons_append, List.nil_append]
    rw [num1_put (by omega)]
    simp only [numV1, ne_eq, not_true_eq_false, if_false, if_true]
    obtain ⟨a, b, c, s, e, f⟩ := l
    obtain ⟨x, y, z⟩ := p
    simp only at h1 h2
    have e1 : a = [] := List.eq_nil_of_length_eq_zero (by omega)
    have e2 : b = [] := List.eq_nil_of_length_eq_zero (by omega)
    have e3 : c = [] := List.eq_nil_of_length_eq_zero (by omega)
    have e4 : e = [] := List.eq_nil_of_length_eq_zero (by omega)
    have e5 : f = [] := List.eq_nil_of_length_eq_zero (by omega)
    have e6 : x = [] := List.eq_nil_of_length_eq_zero (by omega)
    have e7 : y = [] := List.eq_nil_of_length_eq_zero (by omega)
    have e8 : z = [] := List.eq_nil_of_length_eq_zero (by omega)
    have e9 : s = 0 := by omega
    subst e1 e2 e3 e4 e5 e6 e7 e8 e9
    rfl
  · by_cases h1 : k = 1
    · subst h1
      simp only [if_true, if_false, Nat.reduceEqDiff] at h
      rw [Bool.and_eq_true] at h
      have h2 := of_decide_eq_true h.2
      simp only [if_true, List.cons_append]
      rw [num1_put (by omega)]
      simp only [numV1, ne_eq, not_true_eq_false, if_false, if_true, if_neg (show ¬ (1 = 0) by omega)]
      rw [tkLeaf_put (d := l) h.1]
      simp only [if_true]
      obtain ⟨x, y, z⟩ := p
      simp only at h2
      have e6 : x = [] := List.eq_nil_of_length_eq_zero (by omega)
      have e7 : y = [] := List.eq_nil_of_length_eq_zero (by omega)
      have e8 : z = [] := List.eq_nil_of_length_eq_zero (by omega)
      subst e6 e7 e8
      rfl
    · by_cases h2 : k = 2
      · subst h2
        simp only [if_true, if_false, Nat.reduceEqDiff] at h
        rw [Bool.and_eq_true] at h
        have h3 := of_decide_eq_true h.1
        simp only [if_true, if_neg (show ¬ (2 = 1) by omega), List.cons_append]
        rw [num1_put (by omega)]
        simp only [numV1, ne_eq, not_true_eq_false, if_false, if_true, if_neg (show ¬ (2 = 0) by omega), if_neg (show ¬ (2 = 1) by omega)]
        rw [tkPar_put h.2 hl]
        simp only [if_true]
        obtain ⟨a, b, c, s, e, f⟩ := l
        simp only at h3
        have e1 : a = [] := List.eq_nil_of_length_eq_zero (by omega)
        have e2 : b = [] := List.eq_nil_of_length_eq_zero (by omega)
        have e3 : c = [] := List.eq_nil_of_length_eq_zero (by omega)
        have e4 : e = [] := List.eq_nil_of_length_eq_zero (by omega)
        have e5 : f = [] := List.eq_nil_of_length_eq_zero (by omega)
        have e9 : s = 0 := by omega
        subst e1 e2 e3 e4 e5 e9
        rfl
      · simp [h0, h1, h2] at h
end Go.Proofs.YtngealmhgkoaiaaGreat
/- Walk: node.TakeLeaf on the bytes of a right leaf gives that leaf. -/
namespace Go.Proofs.YtngealmhgkoaiaaGreat
open Go.RowKit WireM
set_option linter.unusedVariables false
theorem Only.alloc {B : Nat} {a w : World} (h : Only B a w) (o : Obj) : Only B a (w.alloc o) := h.trans (Only.of ((Below.refl _ _).alloc (Nat.le_refl _) o))
theorem Only.then {B : Nat} {a b c : World} (h : Only B a b) (k : Below a.heap.size b c) : Only B a c :=
  ⟨k.os.trans h.os, k.tape.trans h.tape, k.output.trans h.output, Nat.le_trans h.size k.size, fun i hi hne => (k.block i hi).trans (h.block i hi hne)⟩
theorem Blk.only {w w' : World} {g C : Nat} {t : TypeId} {cs : Array Value} (h : Blk w g t cs) (ho : Only C w w') (hne : g ≠ C) : Blk w' g t cs :=
  (ho.block g h.lt (fun e => hne (by simpa using e))).trans h
theorem Own.other {w w' : World} {B q : Nat} {e t : TypeId} {v : Value} {xs : List Value} {cs : Array Value} (h : Own w B e v xs) (hb : Blk w q t cs) (hne : e ≠ t) (ho : ∀ i, i < w.heap.size → i ≠ q → w'.heap[i]? = w.heap[i]?) : Own w' B e v xs := by
  have hq := h.ne_blk hb hne
  have hlt : ∀ g, v.ownBlock = some g → g < w.heap.size := by
    intro g hg
    rcases h.2 with ⟨rfl, _⟩ | ⟨g', cp, cur, rfl, hg', hh, _⟩
    · simp [Value.ownBlock] at hg
    · simp [Value.ownBlock] at hg
      subst hg
      exact (Array.getElem?_eq_some_iff.1 hh).1
  obtain ⟨q1, q2 | ⟨g', cp, cur, rfl, hg, hh, rest⟩⟩ := h
  · exact ⟨q1, .inl q2⟩
  · exact ⟨q1, .inr ⟨g', cp, cur, rfl, hg, by rw [ho g' (hlt g' (by simp [Value.ownBlock])) (fun e => hq (by simp [Value.ownBlock, e]))]; exact hh, rest⟩⟩
theorem Own.setO {w : World} {B q : Nat} {e t : TypeId} {v : Value} {xs : List Value} {cs : Array Value} (h : Own w B e v xs) (hb : Blk w q t cs) (hne : e ≠ t) (i : Nat) (u : Value) : Own (w.setCell ⟨q, i, none⟩ u) B e v xs :=
  h.other hb hne fun j _ hj => Below.heap_setCell w _ u j hj
theorem RS.setO {w : World} {B q : Nat} {L : List Nat} {er : Nat} (h : RS w B L er) (hq : B < q) (i : Nat) (u : Value) : RS (w.setCell ⟨q, i, none⟩ u) B L er :=
  h.low ((Below.refl q w).setCell (by simp) u) hq
/-- the contract of Vec at bytes that begin with a vector -/
theorem vec_put (B : Nat) (v M : List Nat) (hv : v.length ≤ 1000) (hM : M.length < 1000000000) (hx : ∀ x ∈ vecB v ++ M, x < 256) (W : World) (h : RS W B (vecB v ++ M) 0) :
    Calls Tryz.prog 76 #[.pointer (some ⟨B, 0, none⟩)] W (TakeP B W (v, M, 0)) := by
  have h1 := vecB_len v (by omega)
  have := vec_any B _ 0 W h (by rw [List.length_append]; omega) hx
  rwa [vecF_put (by omega)] at this
theorem num1_any (B s : Nat) (M : List Nat) (hs : s < 256) (hx : ∀ x ∈ s :: M, x < 256) (W : World) (h : RS W B (s :: M) 0) :
    Calls Tryz.prog 207 #[.pointer (some ⟨B, 0, none⟩), .int .i64 1] W fun e W' => e = .returned (.int .u64 (s : Nat)) ∧ RS W' B M 0 ∧ Only B W W' := by
  have := num_any B _ 0 1 W h hx
  rw [num1_put hs] at this
  refine this.mono ?_
  rintro e W' ⟨h1, h2, h3⟩
  exact ⟨by rw [h1]; simp only [numV1], h2, h3⟩
theorem own_len {w : World} {B : Nat} {v : Value} {L : List Nat} (h : Own w B 5 v (bvs L)) : ∃ a c, v = .slice a L.length c := by
  obtain ⟨a, c, e, _⟩ := h.rd
  rw [bvs_len] at e
  exact ⟨a, c, e⟩
/-- what TakeLeaf answers -/
def TkLeafP (B : Nat) (w : World) (d : LeafD) (R : List Nat) (e : Ending) (w' : World) : Prop :=
  ∃ c, e = .returned (.tuple #[.agg c, .int .u8 0]) ∧ LeafO w' w.heap.size d c ∧ RS w' B R 0 ∧ Only B w w'

theorem only_b {B : Nat} {a b c : World} (h : Only B a b) (k : Below b.heap.size b c) : Only B a c := h.then (k.mono h.size)
theorem only_low {B : Nat} {a b c : World} (h : Only B a b) (k : Below a.heap.size b c) : Only B a c := h.then k
theorem only_at {B : Nat} {a b : World} (h : Only B a b) {q : Nat} (hq : a.heap.size ≤ q) (i : Nat) (u : Value) : Only B a (b.setCell ⟨q, i, none⟩ u) :=
  h.then ((Below.refl a.heap.size b).setCell hq u)
set_option maxRecDepth 100000 in
set_option maxHeartbeats 4000000 in
theorem takeLeaf_1 (box sign ident par sig : List Nat) (B : Nat) (L0 L1 L2 L3 L4 L5 R : List Nat) (w : World) (h : RS w B L0 0) (hrl : rlB box.length sign.length ident.length 1 par.length sig.length = true) (hp : par = []) (h45 : L4 = L5)
    (C1 : ∀ W, RS W B L0 0 → Calls Tryz.prog 76 #[.pointer (some ⟨B, 0, none⟩)] W (TakeP B W (box, L1, 0)))
    (C2 : ∀ W, RS W B L1 0 → Calls Tryz.prog 76 #[.pointer (some ⟨B, 0, none⟩)] W (TakeP B W (sign, L2, 0)))
    (C3 : ∀ W, RS W B L2 0 → Calls Tryz.prog 76 #[.pointer (some ⟨B, 0, none⟩)] W (TakeP B W (ident, L3, 0)))
    (C4 : ∀ W, RS W B L3 0 → Calls Tryz.prog 207 #[.pointer (some ⟨B, 0, none⟩), .int .i64 1] W fun e W' => e = .returned (.int .u64 1) ∧ RS W' B L4 0 ∧ Only B W W')
    (C6 : ∀ W, RS W B L5 0 → Calls Tryz.prog 76 #[.pointer (some ⟨B, 0, none⟩)] W (TakeP B W (sig, R, 0))) :
    Calls Tryz.prog 208 #[.pointer (some ⟨B, 0, none⟩)] w (TkLeafP B w ⟨box, sign, ident, 1, par, sig⟩ R) := by
  have hB := h.lt
  subst hp h45
  obtain ⟨g, hg⟩ : ∃ g, g = w.heap.size := ⟨_, rfl⟩
  have hz0 : (w.alloc (.cells #[.slice none 0 0, .slice none 0 0, .slice none 0 0, .int .u8 0, .slice none 0 0, .slice none 0 0] 49)).heap.size = g + 1 := by simp [hg]
  have hoa : Only B w (w.alloc (.cells #[.slice none 0 0, .slice none 0 0, .slice none 0 0, .int .u8 0, .slice none 0 0, .slice none 0 0] 49)) := (Only.refl _ _).alloc _
  have hg0 : Blk (w.alloc (.cells #[.slice none 0 0, .slice none 0 0, .slice none 0 0, .int .u8 0, .slice none 0 0, .slice none 0 0] 49)) g 49 #[.slice none 0 0, .slice none 0 0, .slice none 0 0, .int .u8 0, .slice none 0 0, .slice none 0 0] := by rw [hg]; exact Blk.new _ _ _
  have hrs0 := h.low ((Below.refl w.heap.size w).alloc (Nat.le_refl _) (.cells #[.slice none 0 0, .slice none 0 0, .slice none 0 0, .int .u8 0, .slice none 0 0, .slice none 0 0] 49)) hB
  have HB := Lib.hid (show B < g by omega)
  have HG := Lib.hid hg
  have HZ0 := Lib.hid hz0
  have HOA := Lib.hid hoa
  have HG0 := Lib.hid hg0
  have HC1 := Lib.hid (C1 _ hrs0)
  have HC2 := Lib.hid C2
  have HC3 := Lib.hid C3
  have HC4 := Lib.hid C4
  have HC6 := Lib.hid C6
  have HRL := Lib.hid hrl
  have HER := Lib.hid fun (L : List Nat) W => err_any B L 0 W
  have HRG := Lib.hid @rightLeaf_any
  obtain ⟨S, hS⟩ : ∃ S, S = TkLeafP B w ⟨box, sign, ident, 1, [], sig⟩ R := ⟨_, rfl⟩
  rw [← hS]
  have HS := Lib.hid hS
  clear h hB hg hz0 hoa hg0 hrs0 C1 C2 C3 C4 C6 hrl hS
  go_enter Tryz.func208, Tryz.ntmps208
  go_wp2_with fail
  refine HC1.out.mono ?_
  rintro e w1 ⟨v1, rfl, hown, hrs, honly⟩
  obtain ⟨a1, c1, rfl⟩ := own_len hown
  have HZ1 := Lib.hid (show g + 1 ≤ w1.heap.size by have := honly.size; have := HZ0.out; omega)
  have HI1 := Lib.hid (hown.mono (B' := g + 1) (by have := HZ0.out; omega))
  have HO1 := Lib.hid (HOA.out.trans honly)
  have HG1 := Lib.hid (HG0.out.only honly (by have := HB.out; omega))
  have HRS1 := Lib.hid hrs
  clear hown hrs honly
  go_wp2_with fail
  refine (HC2.out _ HRS1.out).mono ?_
  rintro e w2 ⟨v2, rfl, hown, hrs, honly⟩
  obtain ⟨a2, c2, rfl⟩ := own_len hown
  have HZ2 := Lib.hid (Nat.le_trans HZ1.out honly.size)
  have HI2 := Lib.hid (hown.mono (B' := g + 1) HZ1.out)
  replace HI1 := Lib.hid (HI1.out.only honly (by have := HB.out; omega))
  have HO2 := Lib.hid (HO1.out.trans honly)
  have HG2 := Lib.hid (HG1.out.only honly (by have := HB.out; omega))
  have HRS2 := Lib.hid hrs
  clear hown hrs honly
  go_wp2_with fail
  refine (HC3.out _ HRS2.out).mono ?_
  rintro e w3 ⟨v3, rfl, hown, hrs, honly⟩
  obtain ⟨a3, c3, rfl⟩ := own_len hown
  have HZ3 := Lib.hid (Nat.le_trans HZ2.out honly.size)
  have HI3 := Lib.hid (hown.mono (B' := g + 1) HZ2.out)
  replace HI1 := Lib.hid (HI1.out.only honly (by have := HB.out; omega))
  replace HI2 := Lib.hid (HI2.out.only honly (by have := HB.out; omega))
  have HO3 := Lib.hid (HO2.out.trans honly)
  have HG3 := Lib.hid (HG2.out.only honly (by have := HB.out; omega))
  have HRS3 := Lib.hid hrs
  clear hown hrs honly
  go_wp2_with fail
  refine (HC4.out _ HRS3.out).mono ?_
  rintro e w4 ⟨rfl, hrs, honly⟩
  have HZ4 := Lib.hid (Nat.le_trans HZ3.out honly.size)
  replace HI1 := Lib.hid (HI1.out.only honly (by have := HB.out; omega))
  replace HI2 := Lib.hid (HI2.out.only honly (by have := HB.out; omega))
  replace HI3 := Lib.hid (HI3.out.only honly (by have := HB.out; omega))
  have HO4 := Lib.hid (HO3.out.trans honly)
  have HG4 := Lib.hid (HG3.out.only honly (by have := HB.out; omega))
  have HRS4 := Lib.hid hrs
  clear hrs honly
  obtain ⟨q, hq⟩ : ∃ q, q = w4.heap.size := ⟨_, rfl⟩
  have HQ := Lib.hid hq
  have HQK := Lib.hid (show Blk (w4.alloc (.cells #[.slice none 0 0, .slice none 0 0, .slice none 0 0, .int .u8 0, .slice none 0 0, .slice none 0 0] 49)) q 49 #[.slice none 0 0, .slice none 0 0, .slice none 0 0, .int .u8 0, .slice none 0 0, .slice none 0 0] by rw [hq]; exact Blk.new _ _ _)
  clear hq
  go_wp2_with (refine wpList_store_blk rfl 49 (.tmp 4) (.tmp 16) rfl w4.heap.size #[.slice a1 box.length c1, .slice a2 sign.length c2, .slice a3 ident.length c3, .int .u8 1, .slice none 0 0, .slice none 0 0] rfl rfl 49 #[.slice none 0 0, .slice none 0 0, .slice none 0 0, .int .u8 0, .slice none 0 0, .slice none 0 0] (HQ.out ▸ HQK.out) (by kernel_rfl) rfl rfl ?_)
  rintro w5 hblk hbl hoth hsize
  have hb5 : Below q w4 w5 := by
    rw [HQ.out]
    exact ((Below.refl _ _).alloc (Nat.le_refl _) _).trans (hbl _ (Nat.le_refl _))
  have hq1 : g + 1 ≤ q := by rw [HQ.out]; exact HZ4.out
  replace HI1 := Lib.hid (HI1.out.below hb5 (by rw [HQ.out]; exact Nat.le_refl _))
  replace HI2 := Lib.hid (HI2.out.below hb5 (by rw [HQ.out]; exact Nat.le_refl _))
  replace HI3 := Lib.hid (HI3.out.below hb5 (by rw [HQ.out]; exact Nat.le_refl _))
  have HG5 := Lib.hid (HG4.out.below hb5 (by omega))
  have HRS5 := Lib.hid (HRS4.out.low hb5 (by have := HB.out; omega))
  have HO5 := Lib.hid (only_b HO4.out (HQ.out ▸ hb5))
  rw [← HQ.out] at hblk ⊢
  have HP5 := Lib.hid hblk
  have HQ1 := Lib.hid hq1
  have HZ5 := Lib.hid (show q < w5.heap.size from hblk.lt)
  have y3 := hblk.cell 3
  have z3 := hblk.frozen 3
  simp only [List.getElem?_toArray, List.getElem?_cons_zero, List.getElem?_cons_succ] at y3
  clear hblk hbl hoth hsize hb5 hq1
  go_wp2_with fail
  refine (HER.out _ _ HRS5.out).mono ?_
  rintro e w' ⟨rfl, rfl⟩
  go_wp2_with fail
  refine (HC6.out _ HRS5.out).mono ?_
  rintro e w8 ⟨v5, rfl, hown, hrs, honly⟩
  obtain ⟨a5, c5, rfl⟩ := own_len hown
  have HZ8 := Lib.hid (Nat.lt_of_lt_of_le HZ5.out honly.size)
  have hi5 := hown.mono (B' := g + 1) (by have := HZ5.out; have := HQ1.out; omega)
  have hi1 := HI1.out.only honly (by have := HB.out; omega)
  have hi2 := HI2.out.only honly (by have := HB.out; omega)
  have hi3 := HI3.out.only honly (by have := HB.out; omega)
  have hp8 := HP5.out.only honly (by have := HB.out; have := HQ1.out; omega)
  have hg8 := HG5.out.only honly (by have := HB.out; omega)
  have y5 := hp8.cell 5
  have z5 := hp8.frozen 5
  simp only [List.getElem?_toArray, List.getElem?_cons_zero, List.getElem?_cons_succ] at y5
  have HP9 := Lib.hid (show Blk (w8.setCell ⟨q, 5, none⟩ (.slice a5 sig.length c5)) q 49 #[.slice a1 box.length c1, .slice a2 sign.length c2, .slice a3 ident.length c3, .int .u8 1, .slice none 0 0, .slice a5 sig.length c5] from by simpa using hp8.set 5 (.slice a5 sig.length c5))
  have HG9 := Lib.hid (hg8.far (p := ⟨q, 5, none⟩) (by have := HQ1.out; simp only; omega) (.slice a5 sig.length c5))
  have HRS9 := Lib.hid (hrs.setO (q := q) (by have := HB.out; have := HQ1.out; omega) 5 (.slice a5 sig.length c5))
  have HO9 := Lib.hid (only_at (HO5.out.trans honly) (q := q) (by have := HQ1.out; have := HG.out; omega) 5 (.slice a5 sig.length c5))
  replace HI1 := Lib.hid (hi1.setO hp8 (by decide) 5 (.slice a5 sig.length c5))
  replace HI2 := Lib.hid (hi2.setO hp8 (by decide) 5 (.slice a5 sig.length c5))
  replace HI3 := Lib.hid (hi3.setO hp8 (by decide) 5 (.slice a5 sig.length c5))
  have HI5 := Lib.hid (hi5.setO hp8 (by decide) 5 (.slice a5 sig.length c5))
  clear hown hrs honly hi1 hi2 hi3 hi5 hp8 hg8
  go_wp2_with fail
  refine (HER.out _ _ HRS9.out).mono ?_
  rintro e w' ⟨rfl, rfl⟩
  go_wp2_with (refine wpList_load_at rfl 49 (.tmp 4) rfl q rfl 49 #[.slice a1 box.length c1, .slice a2 sign.length c2, .slice a3 ident.length c3, .int .u8 1, .slice none 0 0, .slice a5 sig.length c5] (0, 0) _ HP9.out Tryz.underlying49 rfl (by kernel_rfl) ?_)
  refine (HRG.out a1 a2 a3 none a5 box.length sign.length ident.length 0 sig.length c1 c2 c3 0 c5 1 _).mono ?_
  rintro e w10 ⟨rfl, hb⟩
  rw [show rlB box.length sign.length ident.length 1 0 sig.length = true from HRL.out]
  have HP10 := Lib.hid (HP9.out.below hb (HP9.out.lt))
  have HG10 := Lib.hid (HG9.out.below hb (HG9.out.lt))
  have HRS10 := Lib.hid (HRS9.out.below hb)
  have HO10 := Lib.hid (only_b HO9.out hb)
  replace HI1 := Lib.hid (HI1.out.below hb (Nat.le_refl _))
  replace HI2 := Lib.hid (HI2.out.below hb (Nat.le_refl _))
  replace HI3 := Lib.hid (HI3.out.below hb (Nat.le_refl _))
  replace HI5 := Lib.hid (HI5.out.below hb (Nat.le_refl _))
  clear hb
  go_wp2_with (first
    | (refine wpList_load_at rfl 49 (.tmp 4) rfl q rfl 49 #[.slice a1 box.length c1, .slice a2 sign.length c2, .slice a3 ident.length c3, .int .u8 1, .slice none 0 0, .slice a5 sig.length c5] (0, 0) _ HP10.out Tryz.underlying49 rfl (by kernel_rfl) ?_)
    | (refine wpList_store_blk rfl 49 (.tmp 2) (.tmp 51) rfl w.heap.size #[.slice a1 box.length c1, .slice a2 sign.length c2, .slice a3 ident.length c3, .int .u8 1, .slice none 0 0, .slice a5 sig.length c5] rfl rfl 49 #[.slice none 0 0, .slice none 0 0, .slice none 0 0, .int .u8 0, .slice none 0 0, .slice none 0 0] (HG.out ▸ HG10.out) (by kernel_rfl) rfl rfl ?_))
  rintro w11 hblk hbl hoth hsize
  rw [← HG.out] at hblk hbl hoth
  have HP11 := Lib.hid hblk
  have hb11 := hbl g (Nat.le_refl _)
  have HRS11 := Lib.hid (HRS10.out.low hb11 HB.out)
  have HO11 := Lib.hid (only_low HO10.out (show Below w.heap.size w10 w11 from HG.out ▸ hb11))
  replace HI1 := Lib.hid ((HI1.out.other HG10.out (by decide) (fun i _ hi => hoth i hi)).mono (B' := g) (Nat.le_succ _))
  replace HI2 := Lib.hid ((HI2.out.other HG10.out (by decide) (fun i _ hi => hoth i hi)).mono (B' := g) (Nat.le_succ _))
  replace HI3 := Lib.hid ((HI3.out.other HG10.out (by decide) (fun i _ hi => hoth i hi)).mono (B' := g) (Nat.le_succ _))
  replace HI5 := Lib.hid ((HI5.out.other HG10.out (by decide) (fun i _ hi => hoth i hi)).mono (B' := g) (Nat.le_succ _))
  clear hblk hbl hoth hsize hb11
  go_wp2_with fail
  refine bodyPost_ret (v := .tuple #[.agg #[.slice a1 box.length c1, .slice a2 sign.length c2, .slice a3 ident.length c3, .int .u8 1, .slice none 0 0, .slice a5 sig.length c5], .int .u8 0]) (results_row2 Tryz.results208 _ _ w.heap.size _ _ _ rfl (HG.out ▸ HP11.out) Tryz.underlying49 rfl (by kernel_rfl)) rfl ?_
  rw [HS.out]
  refine ⟨_, rfl, ?_, HRS11.out, HO11.out⟩
  rw [← HG.out]
  exact ⟨_, _, _, _, _, rfl, HI1.out, HI2.out, HI3.out, Own.nil _ _ _, HI5.out⟩
set_option maxRecDepth 100000 in
set_option maxHeartbeats 4000000 in
theorem takeLeaf_2 (box sign ident par sig : List Nat) (B : Nat) (L0 L1 L2 L3 L4 L5 R : List Nat) (w : World) (h : RS w B L0 0) (hrl : rlB box.length sign.length ident.length 2 par.length sig.length = true) (hp : par = []) (h45 : L4 = L5)
    (C1 : ∀ W, RS W B L0 0 → Calls Tryz.prog 76 #[.pointer (some ⟨B, 0, none⟩)] W (TakeP B W (box, L1, 0)))
    (C2 : ∀ W, RS W B L1 0 → Calls Tryz.prog 76 #[.pointer (some ⟨B, 0, none⟩)] W (TakeP B W (sign, L2, 0)))
    (C3 : ∀ W, RS W B L2 0 → Calls Tryz.prog 76 #[.pointer (some ⟨B, 0, none⟩)] W (TakeP B W (ident, L3, 0)))
    (C4 : ∀ W, RS W B L3 0 → Calls Tryz.prog 207 #[.pointer (some ⟨B, 0, none⟩), .int .i64 1] W fun e W' => e = .returned (.int .u64 2) ∧ RS W' B L4 0 ∧ Only B W W')
    (C6 : ∀ W, RS W B L5 0 → Calls Tryz.prog 76 #[.pointer (some ⟨B, 0, none⟩)] W (TakeP B W (sig, R, 0))) :
    Calls Tryz.prog 208 #[.pointer (some ⟨B, 0, none⟩)] w (TkLeafP B w ⟨box, sign, ident, 2, par, sig⟩ R) := by
  have hB := h.lt
  subst hp h45
  obtain ⟨g, hg⟩ : ∃ g, g = w.heap.size := ⟨_, rfl⟩
  have hz0 : (w.alloc (.cells #[.slice none 0 0, .slice none 0 0, .slice none 0 0, .int .u8 0, .slice none 0 0, .slice none 0 0] 49)).heap.size = g + 1 := by simp [hg]
  have hoa : Only B w (w.alloc (.cells #[.slice none 0 0, .slice none 0 0, .slice none 0 0, .int .u8 0, .slice none 0 0, .slice none 0 0] 49)) := (Only.refl _ _).alloc _
  have hg0 : Blk (w.alloc (.cells #[.slice none 0 0, .slice none 0 0, .slice none 0 0, .int .u8 0, .slice none 0 0, .slice none 0 0] 49)) g 49 #[.slice none 0 0, .slice none 0 0, .slice none 0 0, .int .u8 0, .slice none 0 0, .slice none 0 0] := by rw [hg]; exact Blk.new _ _ _
  have hrs0 := h.low ((Below.refl w.heap.size w).alloc (Nat.le_refl _) (.cells #[.slice none 0 0, .slice none 0 0, .slice none 0 0, .int .u8 0, .slice none 0 0, .slice none 0 0] 49)) hB
  have HB := Lib.hid (show B < g by omega)
  have HG := Lib.hid hg
  have HZ0 := Lib.hid hz0
  have HOA := Lib.hid hoa
  have HG0 := Lib.hid hg0
  have HC1 := Lib.hid (C1 _ hrs0)
  have HC2 := Lib.hid C2
  have HC3 := Lib.hid C3
  have HC4 := Lib.hid C4
  have HC6 := Lib.hid C6
  have HRL := Lib.hid hrl
  have HER := Lib.hid fun (L : List Nat) W => err_any B L 0 W
  have HRG := Lib.hid @rightLeaf_any
  obtain ⟨S, hS⟩ : ∃ S, S = TkLeafP B w ⟨box, sign, ident, 2, [], sig⟩ R := ⟨_, rfl⟩
  rw [← hS]
  have HS := Lib.hid hS
  clear h hB hg hz0 hoa hg0 hrs0 C1 C2 C3 C4 C6 hrl hS
  go_enter Tryz.func208, Tryz.ntmps208
  go_wp2_with fail
  refine HC1.out.mono ?_
  rintro e w1 ⟨v1, rfl, hown, hrs, honly⟩
  obtain ⟨a1, c1, rfl⟩ := own_len hown
  have HZ1 := Lib.hid (show g + 1 ≤ w1.heap.size by have := honly.size; have := HZ0.out; omega)
  have HI1 := Lib.hid (hown.mono (B' := g + 1) (by have := HZ0.out; omega))
  have HO1 := Lib.hid (HOA.out.trans honly)
  have HG1 := Lib.hid (HG0.out.only honly (by have := HB.out; omega))
  have HRS1 := Lib.hid hrs
  clear hown hrs honly
  go_wp2_with fail
  refine (HC2.out _ HRS1.out).mono ?_
  rintro e w2 ⟨v2, rfl, hown, hrs, honly⟩
  obtain ⟨a2, c2, rfl⟩ := own_len hown
  have HZ2 := Lib.hid (Nat.le_trans HZ1.out honly.size)
  have HI2 := Lib.hid (hown.mono (B' := g + 1) HZ1.out)
  replace HI1 := Lib.hid (HI1.out.only honly (by have := HB.out; omega))
  have HO2 := Lib.hid (HO1.out.trans honly)
  have HG2 := Lib.hid (HG1.out.only honly (by have := HB.out; omega))
  have HRS2 := Lib.hid hrs
  clear hown hrs honly
  go_wp2_with fail
  refine (HC3.out _ HRS2.out).mono ?_
  rintro e w3 ⟨v3, rfl, hown, hrs, honly⟩
  obtain ⟨a3, c3, rfl⟩ := own_len hown
  have HZ3 := Lib.hid (Nat.le_trans HZ2.out honly.size)
  have HI3 := Lib.hid (hown.mono (B' := g + 1) HZ2.out)
  replace HI1 := Lib.hid (HI1.out.only honly (by have := HB.out; omega))
  replace HI2 := Lib.hid (HI2.out.only honly (by have := HB.out; omega))
  have HO3 := Lib.hid (HO2.out.trans honly)
  have HG3 := Lib.hid (HG2.out.only honly (by have := HB.out; omega))
  have HRS3 := Lib.hid hrs
  clear hown hrs honly
  go_wp2_with fail
  refine (HC4.out _ HRS3.out).mono ?_
  rintro e w4 ⟨rfl, hrs, honly⟩
  have HZ4 := Lib.hid (Nat.le_trans HZ3.out honly.size)
  replace HI1 := Lib.hid (HI1.out.only honly (by have := HB.out; omega))
  replace HI2 := Lib.hid (HI2.out.only honly (by have := HB.out; omega))
  replace HI3 := Lib.hid (HI3.out.only honly (by have := HB.out; omega))
  have HO4 := Lib.hid (HO3.out.trans honly)
  have HG4 := Lib.hid (HG3.out.only honly (by have := HB.out; omega))
  have HRS4 := Lib.hid hrs
  clear hrs honly
  obtain ⟨q, hq⟩ : ∃ q, q = w4.heap.size := ⟨_, rfl⟩
  have HQ := Lib.hid hq
  have HQK := Lib.hid (show Blk (w4.alloc (.cells #[.slice none 0 0, .slice none 0 0, .slice none 0 0, .int .u8 0, .slice none 0 0, .slice none 0 0] 49)) q 49 #[.slice none 0 0, .slice none 0 0, .slice none 0 0, .int .u8 0, .slice none 0 0, .slice none 0 0] by rw [hq]; exact Blk.new _ _ _)
  clear hq
  go_wp2_with (refine wpList_store_blk rfl 49 (.tmp 4) (.tmp 16) rfl w4.heap.size #[.slice a1 box.length c1, .slice a2 sign.length c2, .slice a3 ident.length c3, .int .u8 2, .slice none 0 0, .slice none 0 0] rfl rfl 49 #[.slice none 0 0, .slice none 0 0, .slice none 0 0, .int .u8 0, .slice none 0 0, .slice none 0 0] (HQ.out ▸ HQK.out) (by kernel_rfl) rfl rfl ?_)
  rintro w5 hblk hbl hoth hsize
  have hb5 : Below q w4 w5 := by
    rw [HQ.out]
    exact ((Below.refl _ _).alloc (Nat.le_refl _) _).trans (hbl _ (Nat.le_refl _))
  have hq1 : g + 1 ≤ q := by rw [HQ.out]; exact HZ4.out
  replace HI1 := Lib.hid (HI1.out.below hb5 (by rw [HQ.out]; exact Nat.le_refl _))
  replace HI2 := Lib.hid (HI2.out.below hb5 (by rw [HQ.out]; exact Nat.le_refl _))
  replace HI3 := Lib.hid (HI3.out.below hb5 (by rw [HQ.out]; exact Nat.le_refl _))
  have HG5 := Lib.hid (HG4.out.below hb5 (by omega))
  have HRS5 := Lib.hid (HRS4.out.low hb5 (by have := HB.out; omega))
  have HO5 := Lib.hid (only_b HO4.out (HQ.out ▸ hb5))
  rw [← HQ.out] at hblk ⊢
  have HP5 := Lib.hid hblk
  have HQ1 := Lib.hid hq1
  have HZ5 := Lib.hid (show q < w5.heap.size from hblk.lt)
  have y3 := hblk.cell 3
  have z3 := hblk.frozen 3
  simp only [List.getElem?_toArray, List.getElem?_cons_zero, List.getElem?_cons_succ] at y3
  clear hblk hbl hoth hsize hb5 hq1
  go_wp2_with fail
  refine (HER.out _ _ HRS5.out).mono ?_
  rintro e w' ⟨rfl, rfl⟩
  go_wp2_with fail
  refine (HC6.out _ HRS5.out).mono ?_
  rintro e w8 ⟨v5, rfl, hown, hrs, honly⟩
  obtain ⟨a5, c5, rfl⟩ := own_len hown
  have HZ8 := Lib.hid (Nat.lt_of_lt_of_le HZ5.out honly.size)
  have hi5 := hown.mono (B' := g + 1) (by have := HZ5.out; have := HQ1.out; omega)
  have hi1 := HI1.out.only honly (by have := HB.out; omega)
  have hi2 := HI2.out.only honly (by have := HB.out; omega)
  have hi3 := HI3.out.only honly (by have := HB.out; omega)
  have hp8 := HP5.out.only honly (by have := HB.out; have := HQ1.out; omega)
  have hg8 := HG5.out.only honly (by have := HB.out; omega)
  have y5 := hp8.cell 5
  have z5 := hp8.frozen 5
  simp only [List.getElem?_toArray, List.getElem?_cons_zero, List.getElem?_cons_succ] at y5
  have HP9 := Lib.hid (show Blk (w8.setCell ⟨q, 5, none⟩ (.slice a5 sig.length c5)) q 49 #[.slice a1 box.length c1, .slice a2 sign.length c2, .slice a3 ident.length c3, .int .u8 2, .slice none 0 0, .slice a5 sig.length c5] from by simpa using hp8.set 5 (.slice a5 sig.length c5))
  have HG9 := Lib.hid (hg8.far (p := ⟨q, 5, none⟩) (by have := HQ1.out; simp only; omega) (.slice a5 sig.length c5))
  have HRS9 := Lib.hid (hrs.setO (q := q) (by have := HB.out; have := HQ1.out; omega) 5 (.slice a5 sig.length c5))
  have HO9 := Lib.hid (only_at (HO5.out.trans honly) (q := q) (by have := HQ1.out; have := HG.out; omega) 5 (.slice a5 sig.length c5))
  replace HI1 := Lib.hid (hi1.setO hp8 (by decide) 5 (.slice a5 sig.length c5))
  replace HI2 := Lib.hid (hi2.setO hp8 (by decide) 5 (.slice a5 sig.length c5))
  replace HI3 := Lib.hid (hi3.setO hp8 (by decide) 5 (.slice a5 sig.length c5))
  have HI5 := Lib.hid (hi5.setO hp8 (by decide) 5 (.slice a5 sig.length c5))
  clear hown hrs honly hi1 hi2 hi3 hi5 hp8 hg8
  go_wp2_with fail
  refine (HER.out _ _ HRS9.out).mono ?_
  rintro e w' ⟨rfl, rfl⟩
  go_wp2_with (refine wpList_load_at rfl 49 (.tmp 4) rfl q rfl 49 #[.slice a1 box.length c1, .slice a2 sign.length c2, .slice a3 ident.length c3, .int .u8 2, .slice none 0 0, .slice a5 sig.length c5] (0, 0) _ HP9.out Tryz.underlying49 rfl (by kernel_rfl) ?_)
  refine (HRG.out a1 a2 a3 none a5 box.length sign.length ident.length 0 sig.length c1 c2 c3 0 c5 2 _).mono ?_
  rintro e w10 ⟨rfl, hb⟩
  rw [show rlB box.length sign.length ident.length 2 0 sig.length = true from HRL.out]
  have HP10 := Lib.hid (HP9.out.below hb (HP9.out.lt))
  have HG10 := Lib.hid (HG9.out.below hb (HG9.out.lt))
  have HRS10 := Lib.hid (HRS9.out.below hb)
  have HO10 := Lib.hid (only_b HO9.out hb)
  replace HI1 := Lib.hid (HI1.out.below hb (Nat.le_refl _))
  replace HI2 := Lib.hid (HI2.out.below hb (Nat.le_refl _))
  replace HI3 := Lib.hid (HI3.out.below hb (Nat.le_refl _))
  replace HI5 := Lib.hid (HI5.out.below hb (Nat.le_refl _))
  clear hb
  go_wp2_with (first
    | (refine wpList_load_at rfl 49 (.tmp 4) rfl q rfl 49 #[.slice a1 box.length c1, .slice a2 sign.length c2, .slice a3 ident.length c3, .int .u8 2, .slice none 0 0, .slice a5 sig.length c5] (0, 0) _ HP10.out Tryz.underlying49 rfl (by kernel_rfl) ?_)
    | (refine wpList_store_blk rfl 49 (.tmp 2) (.tmp 51) rfl w.heap.size #[.slice a1 box.length c1, .slice a2 sign.length c2, .slice a3 ident.length c3, .int .u8 2, .slice none 0 0, .slice a5 sig.length c5] rfl rfl 49 #[.slice none 0 0, .slice none 0 0, .slice none 0 0, .int .u8 0, .slice none 0 0, .slice none 0 0] (HG.out ▸ HG10.out) (by kernel_rfl) rfl rfl ?_))
  rintro w11 hblk hbl hoth hsize
  rw [← HG.out] at hblk hbl hoth
  have HP11 := Lib.hid hblk
  have hb11 := hbl g (Nat.le_refl _)
  have HRS11 := Lib.hid (HRS10.out.low hb11 HB.out)
  have HO11 := Lib.hid (only_low HO10.out (show Below w.heap.size w10 w11 from HG.out ▸ hb11))
  replace HI1 := Lib.hid ((HI1.out.other HG10.out (by decide) (fun i _ hi => hoth i hi)).mono (B' := g) (Nat.le_succ _))
  replace HI2 := Lib.hid ((HI2.out.other HG10.out (by decide) (fun i _ hi => hoth i hi)).mono (B' := g) (Nat.le_succ _))
  replace HI3 := Lib.hid ((HI3.out.other HG10.out (by decide) (fun i _ hi => hoth i hi)).mono (B' := g) (Nat.le_succ _))
  replace HI5 := Lib.hid ((HI5.out.other HG10.out (by decide) (fun i _ hi => hoth i hi)).mono (B' := g) (Nat.le_succ _))
  clear hblk hbl hoth hsize hb11
  go_wp2_with fail
  refine bodyPost_ret (v := .tuple #[.agg #[.slice a1 box.length c1, .slice a2 sign.length c2, .slice a3 ident.length c3, .int .u8 2, .slice none 0 0, .slice a5 sig.length c5], .int .u8 0]) (results_row2 Tryz.results208 _ _ w.heap.size _ _ _ rfl (HG.out ▸ HP11.out) Tryz.underlying49 rfl (by kernel_rfl)) rfl ?_
  rw [HS.out]
  refine ⟨_, rfl, ?_, HRS11.out, HO11.out⟩
  rw [← HG.out]
  exact ⟨_, _, _, _, _, rfl, HI1.out, HI2.out, HI3.out, Own.nil _ _ _, HI5.out⟩
set_option maxRecDepth 100000 in
set_option maxHeartbeats 4000000 in
theorem takeLeaf_3 (box sign ident par sig : List Nat) (B : Nat) (L0 L1 L2 L3 L4 L5 R : List Nat) (w : World) (h : RS w B L0 0) (hrl : rlB box.length sign.length ident.length 3 par.length sig.length = true)
    (C1 : ∀ W, RS W B L0 0 → Calls Tryz.prog 76 #[.pointer (some ⟨B, 0, none⟩)] W (TakeP B W (box, L1, 0)))
    (C2 : ∀ W, RS W B L1 0 → Calls Tryz.prog 76 #[.pointer (some ⟨B, 0, none⟩)] W (TakeP B W (sign, L2, 0)))
    (C3 : ∀ W, RS W B L2 0 → Calls Tryz.prog 76 #[.pointer (some ⟨B, 0, none⟩)] W (TakeP B W (ident, L3, 0)))
    (C4 : ∀ W, RS W B L3 0 → Calls Tryz.prog 207 #[.pointer (some ⟨B, 0, none⟩), .int .i64 1] W fun e W' => e = .returned (.int .u64 3) ∧ RS W' B L4 0 ∧ Only B W W')
    (C5 : ∀ W, RS W B L4 0 → Calls Tryz.prog 76 #[.pointer (some ⟨B, 0, none⟩)] W (TakeP B W (par, L5, 0)))
    (C6 : ∀ W, RS W B L5 0 → Calls Tryz.prog 76 #[.pointer (some ⟨B, 0, none⟩)] W (TakeP B W (sig, R, 0))) :
    Calls Tryz.prog 208 #[.pointer (some ⟨B, 0, none⟩)] w (TkLeafP B w ⟨box, sign, ident, 3, par, sig⟩ R) := by
  have hB := h.lt
  obtain ⟨g, hg⟩ : ∃ g, g = w.heap.size := ⟨_, rfl⟩
  have hz0 : (w.alloc (.cells #[.slice none 0 0, .slice none 0 0, .slice none 0 0, .int .u8 0, .slice none 0 0, .slice none 0 0] 49)).heap.size = g + 1 := by simp [hg]
  have hoa : Only B w (w.alloc (.cells #[.slice none 0 0, .slice none 0 0, .slice none 0 0, .int .u8 0, .slice none 0 0, .slice none 0 0] 49)) := (Only.refl _ _).alloc _
  have hg0 : Blk (w.alloc (.cells #[.slice none 0 0, .slice none 0 0, .slice none 0 0, .int .u8 0, .slice none 0 0, .slice none 0 0] 49)) g 49 #[.slice none 0 0, .slice none 0 0, .slice none 0 0, .int .u8 0, .slice none 0 0, .slice none 0 0] := by rw [hg]; exact Blk.new _ _ _
  have hrs0 := h.low ((Below.refl w.heap.size w).alloc (Nat.le_refl _) (.cells #[.slice none 0 0, .slice none 0 0, .slice none 0 0, .int .u8 0, .slice none 0 0, .slice none 0 0] 49)) hB
  have HB := Lib.hid (show B < g by omega)
  have HG := Lib.hid hg
  have HZ0 := Lib.hid hz0
  have HOA := Lib.hid hoa
  have HG0 := Lib.hid hg0
  have HC1 := Lib.hid (C1 _ hrs0)
  have HC2 := Lib.hid C2
  have HC3 := Lib.hid C3
  have HC4 := Lib.hid C4
  have HC5 := Lib.hid C5
  have HC6 := Lib.hid C6
  have HRL := Lib.hid hrl
  have HER := Lib.hid fun (L : List Nat) W => err_any B L 0 W
  have HRG := Lib.hid @rightLeaf_any
  obtain ⟨S, hS⟩ : ∃ S, S = TkLeafP B w ⟨box, sign, ident, 3, par, sig⟩ R := ⟨_, rfl⟩
  rw [← hS]
  have HS := Lib.hid hS
  clear h hB hg hz0 hoa hg0 hrs0 C1 C2 C3 C4 C5 C6 hrl hS
  go_enter Tryz.func208, Tryz.ntmps208
  go_wp2_with fail
  refine HC1.out.mono ?_
  rintro e w1 ⟨v1, rfl, hown, hrs, honly⟩
  obtain ⟨a1, c1, rfl⟩ := own_len hown
  have HZ1 := Lib.hid (show g + 1 ≤ w1.heap.size by have := honly.size; have := HZ0.out; omega)
  have HI1 := Lib.hid (hown.mono (B' := g + 1) (by have := HZ0.out; omega))
  have HO1 := Lib.hid (HOA.out.trans honly)
  have HG1 := Lib.hid (HG0.out.only honly (by have := HB.out; omega))
  have HRS1 := Lib.hid hrs
  clear hown hrs honly
  go_wp2_with fail
  refine (HC2.out _ HRS1.out).mono ?_
  rintro e w2 ⟨v2, rfl, hown, hrs, honly⟩
  obtain ⟨a2, c2, rfl⟩ := own_len hown
  have HZ2 := Lib.hid (Nat.le_trans HZ1.out honly.size)
  have HI2 := Lib.hid (hown.mono (B' := g + 1) HZ1.out)
  replace HI1 := Lib.hid (HI1.out.only honly (by have := HB.out; omega))
  have HO2 := Lib.hid (HO1.out.trans honly)
  have HG2 := Lib.hid (HG1.out.only honly (by have := HB.out; omega))
  have HRS2 := Lib.hid hrs
  clear hown hrs honly
  go_wp2_with fail
  refine (HC3.out _ HRS2.out).mono ?_
  rintro e w3 ⟨v3, rfl, hown, hrs, honly⟩
  obtain ⟨a3, c3, rfl⟩ := own_len hown
  have HZ3 := Lib.hid (Nat.le_trans HZ2.out honly.size)
  have HI3 := Lib.hid (hown.mono (B' := g + 1) HZ2.out)
  replace HI1 := Lib.hid (HI1.out.only honly (by have := HB.out; omega))
  replace HI2 := Lib.hid (HI2.out.only honly (by have := HB.out; omega))
  have HO3 := Lib.hid (HO2.out.trans honly)
  have HG3 := Lib.hid (HG2.out.only honly (by have := HB.out; omega))
  have HRS3 := Lib.hid hrs
  clear hown hrs honly
  go_wp2_with fail
  refine (HC4.out _ HRS3.out).mono ?_
  rintro e w4 ⟨rfl, hrs, honly⟩
  have HZ4 := Lib.hid (Nat.le_trans HZ3.out honly.size)
  replace HI1 := Lib.hid (HI1.out.only honly (by have := HB.out; omega))
  replace HI2 := Lib.hid (HI2.out.only honly (by have := HB.out; omega))
  replace HI3 := Lib.hid (HI3.out.only honly (by have := HB.out; omega))
  have HO4 := Lib.hid (HO3.out.trans honly)
  have HG4 := Lib.hid (HG3.out.only honly (by have := HB.out; omega))
  have HRS4 := Lib.hid hrs
  clear hrs honly
  obtain ⟨q, hq⟩ : ∃ q, q = w4.heap.size := ⟨_, rfl⟩
  have HQ := Lib.hid hq
  have HQK := Lib.hid (show Blk (w4.alloc (.cells #[.slice none 0 0, .slice none 0 0, .slice none 0 0, .int .u8 0, .slice none 0 0, .slice none 0 0] 49)) q 49 #[.slice none 0 0, .slice none 0 0, .slice none 0 0, .int .u8 0, .slice none 0 0, .slice none 0 0] by rw [hq]; exact Blk.new _ _ _)
  clear hq
  go_wp2_with (refine wpList_store_blk rfl 49 (.tmp 4) (.tmp 16) rfl w4.heap.size #[.slice a1 box.length c1, .slice a2 sign.length c2, .slice a3 ident.length c3, .int .u8 3, .slice none 0 0, .slice none 0 0] rfl rfl 49 #[.slice none 0 0, .slice none 0 0, .slice none 0 0, .int .u8 0, .slice none 0 0, .slice none 0 0] (HQ.out ▸ HQK.out) (by kernel_rfl) rfl rfl ?_)
  rintro w5 hblk hbl hoth hsize
  have hb5 : Below q w4 w5 := by
    rw [HQ.out]
    exact ((Below.refl _ _).alloc (Nat.le_refl _) _).trans (hbl _ (Nat.le_refl _))
  have hq1 : g + 1 ≤ q := by rw [HQ.out]; exact HZ4.out
  replace HI1 := Lib.hid (HI1.out.below hb5 (by rw [HQ.out]; exact Nat.le_refl _))
  replace HI2 := Lib.hid (HI2.out.below hb5 (by rw [HQ.out]; exact Nat.le_refl _))
  replace HI3 := Lib.hid (HI3.out.below hb5 (by rw [HQ.out]; exact Nat.le_refl _))
  have HG5 := Lib.hid (HG4.out.below hb5 (by omega))
  have HRS5 := Lib.hid (HRS4.out.low hb5 (by have := HB.out; omega))
  have HO5 := Lib.hid (only_b HO4.out (HQ.out ▸ hb5))
  rw [← HQ.out] at hblk ⊢
  have HP5 := Lib.hid hblk
  have HQ1 := Lib.hid hq1
  have HZ5 := Lib.hid (show q < w5.heap.size from hblk.lt)
  have y3 := hblk.cell 3
  have z3 := hblk.frozen 3
  simp only [List.getElem?_toArray, List.getElem?_cons_zero, List.getElem?_cons_succ] at y3
  clear hblk hbl hoth hsize hb5 hq1
  go_wp2_with fail
  refine (HER.out _ _ HRS5.out).mono ?_
  rintro e w' ⟨rfl, rfl⟩
  go_wp2_with fail
  refine (HC5.out _ HRS5.out).mono ?_
  rintro e w6 ⟨v4, rfl, hown, hrs, honly⟩
  obtain ⟨a4, c4, rfl⟩ := own_len hown
  have HZ6 := Lib.hid (Nat.lt_of_lt_of_le HZ5.out honly.size)
  have hi4 := hown.mono (B' := g + 1) (by have := HZ5.out; have := HQ1.out; omega)
  have hi1 := HI1.out.only honly (by have := HB.out; omega)
  have hi2 := HI2.out.only honly (by have := HB.out; omega)
  have hi3 := HI3.out.only honly (by have := HB.out; omega)
  have hp6 := HP5.out.only honly (by have := HB.out; have := HQ1.out; omega)
  have hg6 := HG5.out.only honly (by have := HB.out; omega)
  have y4 := hp6.cell 4
  have z4 := hp6.frozen 4
  simp only [List.getElem?_toArray, List.getElem?_cons_zero, List.getElem?_cons_succ] at y4
  have HP7 := Lib.hid (show Blk (w6.setCell ⟨q, 4, none⟩ (.slice a4 par.length c4)) q 49 #[.slice a1 box.length c1, .slice a2 sign.length c2, .slice a3 ident.length c3, .int .u8 3, .slice a4 par.length c4, .slice none 0 0] from by simpa using hp6.set 4 (.slice a4 par.length c4))
  have HG7 := Lib.hid (hg6.far (p := ⟨q, 4, none⟩) (by have := HQ1.out; simp only; omega) (.slice a4 par.length c4))
  have HRS7 := Lib.hid (hrs.setO (q := q) (by have := HB.out; have := HQ1.out; omega) 4 (.slice a4 par.length c4))
  have HO7 := Lib.hid (only_at (HO5.out.trans honly) (q := q) (by have := HQ1.out; have := HG.out; omega) 4 (.slice a4 par.length c4))
  have HZ7 := Lib.hid (show q < (w6.setCell ⟨q, 4, none⟩ (.slice a4 par.length c4)).heap.size from by simpa using HZ6.out)
  replace HI1 := Lib.hid (hi1.setO hp6 (by decide) 4 (.slice a4 par.length c4))
  replace HI2 := Lib.hid (hi2.setO hp6 (by decide) 4 (.slice a4 par.length c4))
  replace HI3 := Lib.hid (hi3.setO hp6 (by decide) 4 (.slice a4 par.length c4))
  have HI4 := Lib.hid (hi4.setO hp6 (by decide) 4 (.slice a4 par.length c4))
  clear hown hrs honly hi1 hi2 hi3 hi4 hp6 hg6
  go_wp2_with fail
  refine (HC6.out _ HRS7.out).mono ?_
  rintro e w8 ⟨v5, rfl, hown, hrs, honly⟩
  obtain ⟨a5, c5, rfl⟩ := own_len hown
  have HZ8 := Lib.hid (Nat.lt_of_lt_of_le HZ7.out honly.size)
  have hi5 := hown.mono (B' := g + 1) (by have := HZ7.out; have := HQ1.out; omega)
  have hi1 := HI1.out.only honly (by have := HB.out; omega)
  have hi2 := HI2.out.only honly (by have := HB.out; omega)
  have hi3 := HI3.out.only honly (by have := HB.out; omega)
  have hi4 := HI4.out.only honly (by have := HB.out; omega)
  have hp8 := HP7.out.only honly (by have := HB.out; have := HQ1.out; omega)
  have hg8 := HG7.out.only honly (by have := HB.out; omega)
  have y5 := hp8.cell 5
  have z5 := hp8.frozen 5
  simp only [List.getElem?_toArray, List.getElem?_cons_zero, List.getElem?_cons_succ] at y5
  have HP9 := Lib.hid (show Blk (w8.setCell ⟨q, 5, none⟩ (.slice a5 sig.length c5)) q 49 #[.slice a1 box.length c1, .slice a2 sign.length c2, .slice a3 ident.length c3, .int .u8 3, .slice a4 par.length c4, .slice a5 sig.length c5] from by simpa using hp8.set 5 (.slice a5 sig.length c5))
  have HG9 := Lib.hid (hg8.far (p := ⟨q, 5, none⟩) (by have := HQ1.out; simp only; omega) (.slice a5 sig.length c5))
  have HRS9 := Lib.hid (hrs.setO (q := q) (by have := HB.out; have := HQ1.out; omega) 5 (.slice a5 sig.length c5))
  have HO9 := Lib.hid (only_at (HO7.out.trans honly) (q := q) (by have := HQ1.out; have := HG.out; omega) 5 (.slice a5 sig.length c5))
  replace HI1 := Lib.hid (hi1.setO hp8 (by decide) 5 (.slice a5 sig.length c5))
  replace HI2 := Lib.hid (hi2.setO hp8 (by decide) 5 (.slice a5 sig.length c5))
  replace HI3 := Lib.hid (hi3.setO hp8 (by decide) 5 (.slice a5 sig.length c5))
  replace HI4 := Lib.hid (hi4.setO hp8 (by decide) 5 (.slice a5 sig.length c5))
  have HI5 := Lib.hid (hi5.setO hp8 (by decide) 5 (.slice a5 sig.length c5))
  clear hown hrs honly hi1 hi2 hi3 hi4 hi5 hp8 hg8
  go_wp2_with fail
  refine (HER.out _ _ HRS9.out).mono ?_
  rintro e w' ⟨rfl, rfl⟩
  go_wp2_with (refine wpList_load_at rfl 49 (.tmp 4) rfl q rfl 49 #[.slice a1 box.length c1, .slice a2 sign.length c2, .slice a3 ident.length c3, .int .u8 3, .slice a4 par.length c4, .slice a5 sig.length c5] (0, 0) _ HP9.out Tryz.underlying49 rfl (by kernel_rfl) ?_)
  refine (HRG.out a1 a2 a3 a4 a5 box.length sign.length ident.length par.length sig.length c1 c2 c3 c4 c5 3 _).mono ?_
  rintro e w10 ⟨rfl, hb⟩
  rw [show rlB box.length sign.length ident.length 3 par.length sig.length = true from HRL.out]
  have HP10 := Lib.hid (HP9.out.below hb (HP9.out.lt))
  have HG10 := Lib.hid (HG9.out.below hb (HG9.out.lt))
  have HRS10 := Lib.hid (HRS9.out.below hb)
  have HO10 := Lib.hid (only_b HO9.out hb)
  replace HI1 := Lib.hid (HI1.out.below hb (Nat.le_refl _))
  replace HI2 := Lib.hid (HI2.out.below hb (Nat.le_refl _))
  replace HI3 := Lib.hid (HI3.out.below hb (Nat.le_refl _))
  replace HI4 := Lib.hid (HI4.out.below hb (Nat.le_refl _))
  replace HI5 := Lib.hid (HI5.out.below hb (Nat.le_refl _))
  clear hb
  go_wp2_with (first
    | (refine wpList_load_at rfl 49 (.tmp 4) rfl q rfl 49 #[.slice a1 box.length c1, .slice a2 sign.length c2, .slice a3 ident.length c3, .int .u8 3, .slice a4 par.length c4, .slice a5 sig.length c5] (0, 0) _ HP10.out Tryz.underlying49 rfl (by kernel_rfl) ?_)
    | (refine wpList_store_blk rfl 49 (.tmp 2) (.tmp 51) rfl w.heap.size #[.slice a1 box.length c1, .slice a2 sign.length c2, .slice a3 ident.length c3, .int .u8 3, .slice a4 par.length c4, .slice a5 sig.length c5] rfl rfl 49 #[.slice none 0 0, .slice none 0 0, .slice none 0 0, .int .u8 0, .slice none 0 0, .slice none 0 0] (HG.out ▸ HG10.out) (by kernel_rfl) rfl rfl ?_))
  rintro w11 hblk hbl hoth hsize
  rw [← HG.out] at hblk hbl hoth
  have HP11 := Lib.hid hblk
  have hb11 := hbl g (Nat.le_refl _)
  have HRS11 := Lib.hid (HRS10.out.low hb11 HB.out)
  have HO11 := Lib.hid (only_low HO10.out (show Below w.heap.size w10 w11 from HG.out ▸ hb11))
  replace HI1 := Lib.hid ((HI1.out.other HG10.out (by decide) (fun i _ hi => hoth i hi)).mono (B' := g) (Nat.le_succ _))
  replace HI2 := Lib.hid ((HI2.out.other HG10.out (by decide) (fun i _ hi => hoth i hi)).mono (B' := g) (Nat.le_succ _))
  replace HI3 := Lib.hid ((HI3.out.other HG10.out (by decide) (fun i _ hi => hoth i hi)).mono (B' := g) (Nat.le_succ _))
  replace HI4 := Lib.hid ((HI4.out.other HG10.out (by decide) (fun i _ hi => hoth i hi)).mono (B' := g) (Nat.le_succ _))
  replace HI5 := Lib.hid ((HI5.out.other HG10.out (by decide) (fun i _ hi => hoth i hi)).mono (B' := g) (Nat.le_succ _))
  clear hblk hbl hoth hsize hb11
  go_wp2_with fail
  refine bodyPost_ret (v := .tuple #[.agg #[.slice a1 box.length c1, .slice a2 sign.length c2, .slice a3 ident.length c3, .int .u8 3, .slice a4 par.length c4, .slice a5 sig.length c5], .int .u8 0]) (results_row2 Tryz.results208 _ _ w.heap.size _ _ _ rfl (HG.out ▸ HP11.out) Tryz.underlying49 rfl (by kernel_rfl)) rfl ?_
  rw [HS.out]
  refine ⟨_, rfl, ?_, HRS11.out, HO11.out⟩
  rw [← HG.out]
  exact ⟨_, _, _, _, _, rfl, HI1.out, HI2.out, HI3.out, HI4.out, HI5.out⟩
theorem takeLeaf_on (d : LeafD) (B : Nat) (R : List Nat) (w : World) (hr : leafOkB d = true) (hlt : ∀ x ∈ unsB d ++ vecB d.sig ++ R, x < 256) (hR : R.length < 900000000) (h : RS w B (unsB d ++ vecB d.sig ++ R) 0) :
    Calls Tryz.prog 208 #[.pointer (some ⟨B, 0, none⟩)] w (TkLeafP B w d R) := by
  obtain ⟨box, sign, ident, s, par, sig⟩ := d
  have hrl : rlB box.length sign.length ident.length s par.length sig.length = true := hr
  have hb := of_decide_eq_true hrl
  obtain ⟨b1, b2, b5, b3, b4, bs, bt, bp⟩ := hb
  have e0 : unsB ⟨box, sign, ident, s, par, sig⟩ ++ vecB sig ++ R = vecB box ++ (vecB sign ++ (vecB ident ++ (s :: ((if s = 3 then vecB par else []) ++ (vecB sig ++ R))))) := by simp [unsB, catB]
  simp only at h hlt
  rw [e0] at h hlt
  have l1 := vecB_len box (by omega)
  have l2 := vecB_len sign (by omega)
  have l3 := vecB_len ident (by omega)
  have l4 := vecB_len par (by omega)
  have l5 := vecB_len sig (by omega)
  have m5 : (vecB sig ++ R).length < 900000100 := by rw [List.length_append]; omega
  have x5 : ∀ x ∈ vecB sig ++ R, x < 256 := fun x hx => hlt x (List.mem_append_right _ (List.mem_append_right _ (List.mem_append_right _ (List.mem_cons_of_mem _ (List.mem_append_right _ hx)))))
  have m4 : ((if s = 3 then vecB par else []) ++ (vecB sig ++ R)).length < 900000200 := by rw [List.length_append]; split <;> (try simp only [List.length_nil]) <;> omega
  have x4 : ∀ x ∈ (if s = 3 then vecB par else []) ++ (vecB sig ++ R), x < 256 := fun x hx => hlt x (List.mem_append_right _ (List.mem_append_right _ (List.mem_append_right _ (List.mem_cons_of_mem _ hx))))
  have x3 : ∀ x ∈ s :: ((if s = 3 then vecB par else []) ++ (vecB sig ++ R)), x < 256 := fun x hx => hlt x (List.mem_append_right _ (List.mem_append_right _ (List.mem_append_right _ hx)))
  have x2 := fun x hx => hlt x (List.mem_append_right _ (List.mem_append_right _ hx))
  have x1 := fun x hx => hlt x (List.mem_append_right _ hx)
  have C1 := vec_put B box _ (by omega) (by simp only [List.length_append, List.length_cons] at m4 m5 ⊢; omega) hlt
  have C2 := vec_put B sign _ (by omega) (by simp only [List.length_append, List.length_cons] at m4 m5 ⊢; omega) x1
  have C3 := vec_put B ident _ (by omega) (by simp only [List.length_append, List.length_cons] at m4 m5 ⊢; omega) x2
  have C4 := num1_any B s _ (by omega) x3
  have C6 := vec_put B sig R (by omega) (by omega) x5
  rcases (show s = 1 ∨ s = 2 ∨ s = 3 by omega) with rfl | rfl | rfl
  · exact takeLeaf_1 box sign ident par sig B _ _ _ _ _ _ R w h hrl (List.eq_nil_of_length_eq_zero (by omega)) rfl C1 C2 C3 C4 C6
  · exact takeLeaf_2 box sign ident par sig B _ _ _ _ _ _ R w h hrl (List.eq_nil_of_length_eq_zero (by omega)) rfl C1 C2 C3 C4 C6
  · exact takeLeaf_3 box sign ident par sig B _ _ _ _ _ _ R w h hrl C1 C2 C3 C4 (vec_put B par _ (by omega) (by omega) x4) C6
end Go.Proofs.YtngealmhgkoaiaaGreat
