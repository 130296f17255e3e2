/- Plain: an own copy of a tree of which some nodes are replaced; lists out of functions. -/
import Derived.Test.YtngealmhgkoaiaaGreatZHashStands26
import Derived.Test.YtngealmhgkoaiaaGreatZHashStands18
import Derived.Laws.OwnMore
namespace Go.Proofs.YtngealmhgkoaiaaGreat
open Go.RowKit WalkM WireM
set_option linter.unusedVariables false
theorem lateB_pw {L : List Int} : lateB L = true ↔ L.Pairwise (· < ·) ∧ ∀ x ∈ L, 0 ≤ x ∧ x < 65536 := by
 constructor
 ·intro h
  refine ⟨?_, late_bd h⟩
  rw [lateB_iff] at h
  have key : ∀ j, ∀ i, i < j → j < L.length → L.getD i 0 < L.getD j 0 := by
   intro j
   induction j with
   | zero => intro i hi; omega
   | succ j ih =>
    intro i hi hj
    have h1 := (h (j + 1) hj).1
    unfold prevZ at h1
    rw [if_neg (by omega), Nat.add_sub_cancel] at h1
    by_cases e : i = j
    ·subst e; exact h1
    ·have := ih i (by omega) (by omega); omega
  rw [List.pairwise_iff_getElem]
  intro i j hi hj hij
  have := key j i hij hj
  simpa [List.getD_eq_getElem?_getD, hi, hj] using this
 ·rintro ⟨h1, h2⟩
  rw [lateB_iff]
  intro i hi
  have hb := h2 _ (List.getElem_mem hi)
  have e : L.getD i 0 = L[i] := by simp [List.getD_eq_getElem?_getD, hi]
  rw [e]
  refine ⟨?_, hb.2⟩
  unfold prevZ
  split
  ·omega
  ·have := (List.pairwise_iff_getElem.1 h1) (i - 1) i (by omega) hi (by omega)
   rw [show L.getD (i - 1) 0 = L[i - 1] by simp [List.getD_eq_getElem?_getD, show i - 1 < L.length by omega]]
   exact this
theorem lateB_filter {L : List Int} (h : lateB L = true) (p : Int → Bool) : lateB (L.filter p) = true := by
 rw [lateB_pw] at h ⊢
 exact ⟨h.1.filter p, fun x hx => h.2 x (List.mem_filter.1 hx).1⟩
theorem rightB_late {d : NodeD} (h : rightB d = true) (p : Int → Bool) : rightB ⟨d.kind, d.leaf, ⟨d.par.box, d.par.hash, d.par.late.filter p⟩⟩ = true := by
 by_cases hk : d.kind = 2
 ·unfold rightB at h ⊢
  simp only [hk, if_true, if_false, Nat.reduceEqDiff] at h ⊢
  rw [Bool.and_eq_true] at h ⊢
  refine ⟨h.1, ?_⟩
  have h2 := h.2
  rw [rpB, Bool.and_eq_true] at h2 ⊢
  exact ⟨lateB_filter h2.1 p, h2.2⟩
 ·have hl := right_nolate h hk
  obtain ⟨k, l, b, hh, la⟩ := d
  simp only at hl
  subst hl
  exact h
/-- a list out of a function -/
def listT (n : Nat) (F : Nat → NodeD) : List NodeD := (List.range n).map F
theorem listT_len (n : Nat) (F : Nat → NodeD) : (listT n F).length = n := by simp [listT]
theorem listT_nd {n : Nat} {F : Nat → NodeD} {x : Nat} (h : x < n) : nd (listT n F) x = F x := by
 simp [nd, listT, List.getD_eq_getElem?_getD, h]
theorem listT_small {n : Nat} {F : Nat → NodeD} (hn : n ≤ 40) (h : ∀ x, x < n → smallB (F x) = true) : smallT (listT n F) = true := by
 rw [smallT, Bool.and_eq_true, listT_len]
 refine ⟨decide_eq_true hn, List.all_eq_true.2 fun d hd => ?_⟩
 obtain ⟨x, hx, rfl⟩ := List.mem_map.1 hd
 exact h x (List.mem_range.1 hx)
theorem listT_ok {n : Nat} {F : Nat → NodeD} (h : ∀ x, x < n → NodeOk (F x)) : TreeOk (listT n F) := by
 intro d hd
 obtain ⟨x, hx, rfl⟩ := List.mem_map.1 hd
 exact h x (List.mem_range.1 hx)
theorem listT_placed {n : Nat} {F : Nat → NodeD} (h : ∀ x, x < n → (F x).kind ≠ otherK x ∧ rightB (F x) = true) : placedB (listT n F) = true := by
 rw [placedB_iff, listT_len]
 intro x hx
 rw [listT_nd hx]
 exact h x hx
/-- some cells of a list replaced -/
def putL (xs : List Value) (o : Nat) : List Value → List Value
 | [] => xs
 | v :: vs => putL (xs.set o v) (o + 1) vs
theorem putL_len : ∀ (vs xs : List Value) (o : Nat), (putL xs o vs).length = xs.length
 | [], _, _ => rfl
 | v :: vs, xs, o => by rw [putL, putL_len vs, List.length_set]
theorem putL_get : ∀ (vs xs : List Value) (o : Nat), o + vs.length ≤ xs.length → ∀ j, (putL xs o vs)[j]? = if o ≤ j ∧ j < o + vs.length then vs[j - o]? else xs[j]?
 | [], xs, o, _, j => by rw [putL, if_neg (by simp)]
 | v :: vs, xs, o, h, j => by
  rw [List.length_cons] at h
  rw [putL, putL_get vs (xs.set o v) (o + 1) (by rw [List.length_set]; omega) j, List.length_cons]
  by_cases h1 : o + 1 ≤ j ∧ j < o + 1 + vs.length
  ·rw [if_pos h1, if_pos (by omega), show j - o = (j - (o + 1)) + 1 by omega, List.getElem?_cons_succ]
  ·rw [if_neg h1]
   by_cases h2 : j = o
   ·subst h2
    rw [if_pos (by omega), Nat.sub_self, List.getElem?_cons_zero, List.getElem?_set_self (by omega)]
   ·rw [if_neg (by omega), List.getElem?_set_ne (fun e => h2 e.symm)]
theorem cellsAt_get? (xs : List Value) (j k : Nat) : (cellsAt xs j)[k]? = if k < 10 then xs[10 * j + k]? else none := by
 unfold cellsAt
 rw [List.getElem?_take, List.getElem?_drop]
theorem cellsAt_put {xs vs : List Value} {n x : Nat} (h : xs.length = 10 * n) (hx : x < n) (hv : vs.length = 10) (j : Nat) : cellsAt (putL xs (10 * x) vs) j = if j = x then vs else cellsAt xs j := by
 apply List.ext_getElem?
 intro k
 rw [cellsAt_get?]
 by_cases hk : k < 10
 ·rw [if_pos hk, putL_get _ _ _ (by omega)]
  by_cases e : j = x
  ·subst e
   rw [if_pos (by omega), if_pos rfl]
   congr 1
   omega
  ·rw [if_neg (by omega), if_neg e, cellsAt_get?, if_pos hk]
 ·rw [if_neg hk]
  by_cases e : j = x
  ·rw [if_pos e, List.getElem?_eq_none (by omega)]
  ·rw [if_neg e, cellsAt_get?, if_neg hk]
theorem cellsAt_set {xs : List Value} {n x : Nat} (h : xs.length = 10 * n) (hx : x < n) (k : Nat) (hk : k < 10) (u : Value) (j : Nat) : cellsAt (xs.set (10 * x + k) u) j = if j = x then (cellsAt xs x).set k u else cellsAt xs j := by
 apply List.ext_getElem?
 intro i
 rw [cellsAt_get?]
 by_cases hi : i < 10
 ·rw [if_pos hi]
  by_cases e : j = x
  ·subst e
   rw [if_pos rfl]
   by_cases ek : i = k
   ·subst ek
    rw [List.getElem?_set_self (by omega), List.getElem?_set_self (by unfold cellsAt; rw [List.length_take, List.length_drop]; omega)]
   ·rw [List.getElem?_set_ne (by omega), List.getElem?_set_ne (fun e => ek e.symm), cellsAt_get?, if_pos hi]
  ·rw [if_neg e, List.getElem?_set_ne (by omega), cellsAt_get?, if_pos hi]
 ·rw [if_neg hi]
  by_cases e : j = x
  ·rw [if_pos e, List.getElem?_eq_none (by rw [List.length_set]; unfold cellsAt; rw [List.length_take]; omega)]
  ·rw [if_neg e, cellsAt_get?, if_neg hi]
theorem OwnK.put {B : Nat} {e : TypeId} {k g n cap : Nat} : ∀ (vs : List Value) (o : Nat) {w : World} {xs : List Value}, OwnK w B e k (.slice (some ⟨g, 0, none⟩) n cap) n xs → OwnK (w.setCells g o vs) B e k (.slice (some ⟨g, 0, none⟩) n cap) n (putL xs o vs)
 | [], _, _, _, h => h
 | v :: vs, o, w, xs, h => by
  rw [World.setCells, putL]
  exact OwnK.put vs (o + 1) (World.ownsRow.stored h o v).1
theorem OwnK.blk {w : World} {B : Nat} {e : TypeId} {k g n cap : Nat} {xs : List Value} (h : OwnK w B e k (.slice (some ⟨g, 0, none⟩) n cap) n xs) : ∃ cur, Blk w g e cur ∧ B ≤ g ∧ g < w.heap.size ∧ n * k ≤ cur.size := by
 rcases h.2 with ⟨h', _⟩ | ⟨g', cap', cur, h', hb, hg, hnc, hcm, hcs, htake⟩
 ·simp at h'
 ·simp only [Value.slice.injEq, Option.some.injEq, Addr.mk.injEq, and_true, true_and] at h'
  obtain ⟨rfl, rfl⟩ := h'
  refine ⟨cur, hg, hb, Blk.lt hg, ?_⟩
  rw [hcs]
  exact Nat.mul_le_mul_right _ hnc
/-- a tree in new memory, as a function -/
def TreeF (w : World) (B : Nat) (v : Value) (n : Nat) (F : Nat → NodeD) : Prop :=
 ∃ xs, OwnK w B 54 10 v n xs ∧ xs.length = 10 * n ∧ (∀ j, j < n → NodeO w B (F j) (cellsAt xs j).toArray) ∧ ∀ j k, j < k → k < n → apart2 (lateV xs j) (lateV xs k)
theorem TreeF.o {w : World} {B : Nat} {v : Value} {n : Nat} {F : Nat → NodeD} (h : TreeF w B v n F) : TreeO w B v (listT n F) := by
 obtain ⟨xs, h1, h2, h3, h4⟩ := h
 refine ⟨xs, by rw [listT_len]; exact h1, ?_⟩
 rw [listT_len]
 exact ⟨h2, fun j hj => by rw [listT_nd hj]; exact h3 j hj, h4⟩
theorem TreeO.f {w : World} {B : Nat} {v : Value} {t : List NodeD} (h : TreeO w B v t) : TreeF w B v t.length (nd t) := by
 obtain ⟨xs, h1, h2, h3, h4⟩ := h
 exact ⟨xs, h1, h2, h3, h4⟩
theorem TreeF.congr {w : World} {B : Nat} {v : Value} {n : Nat} {F G : Nat → NodeD} (h : TreeF w B v n F) (e : ∀ x, x < n → G x = F x) : TreeF w B v n G := by
 obtain ⟨xs, h1, h2, h3, h4⟩ := h
 exact ⟨xs, h1, h2, fun j hj => by rw [e j hj]; exact h3 j hj, h4⟩
theorem TreeF.below {w w' : World} {B B' : Nat} {v : Value} {n : Nat} {F : Nat → NodeD} (h : TreeF w B v n F) (hb : Below B' w w') (hB : w.heap.size ≤ B') : TreeF w' B v n F := by
 obtain ⟨xs, h1, h2, h3, h4⟩ := h
 exact ⟨xs, h1.below hb hB, h2, fun j hj => (h3 j hj).below hb hB, h4⟩
theorem TreeF.alloc {w : World} {B : Nat} {v : Value} {n : Nat} {F : Nat → NodeD} (h : TreeF w B v n F) (o : Obj) : TreeF (w.alloc o) B v n F := h.below ((Below.refl _ _).alloc (Nat.le_refl _) o) (Nat.le_refl _)
theorem TreeF.sl {w : World} {B : Nat} {v : Value} {n : Nat} {F : Nat → NodeD} (h : TreeF w B v n F) (hn : 0 < n) : ∃ g cap, v = .slice (some ⟨g, 0, none⟩) n cap ∧ B ≤ g ∧ g < w.heap.size ∧ n ≤ cap ∧ cap ≤ maxLen := by
 obtain ⟨xs, h1, h2, h3, h4⟩ := h
 obtain ⟨g, cap, e, k1, k2, k3, k4, _⟩ := h1.out hn
 exact ⟨g, cap, e, k1, k2, k3, k4⟩
/-- the cells of a node in place -/
theorem TreeF.at {w : World} {B g cap : Nat} {n : Nat} {F : Nat → NodeD} (h : TreeF w B (.slice (some ⟨g, 0, none⟩) n cap) n F) {x : Nat} (hx : x < n) : ∃ cs : Array Value, cs.size = 10 ∧ NodeO w B (F x) cs ∧ w.rangeAt g (10 * x) cs.toList ∧ w.there g (10 * x) 10 := by
 obtain ⟨xs, h1, h2, h3, h4⟩ := h
 have hno := h3 x hx
 have hsz : (cellsAt xs x).length = 10 := by unfold cellsAt; rw [List.length_take, List.length_drop]; omega
 obtain ⟨cur, hb, hB, hl, hcs⟩ := h1.blk
 refine ⟨_, by simpa using hsz, hno, ?_, hb.there _ _ (by omega)⟩
 intro j u hu
 obtain ⟨g', cap', e, _, _, _, _, hc, _⟩ := h1.out (by omega)
 simp only [Value.slice.injEq, Option.some.injEq, Addr.mk.injEq, and_true, true_and] at e
 obtain ⟨rfl, rfl⟩ := e
 exact hc _ u (cellsAt_get h2 hx (by simpa using hu))
theorem NodeO.grownA {w w' : World} {B g : Nat} {d : NodeD} {c cur : Array Value} (h : NodeO w B d c) (hb : Blk w g 54 cur) (hg : w.grownBy w' (some g)) : NodeO w' B d c :=
 h.keep fun e v xs he hu => hu.grown hg fun g' hg' => by
  intro e2
  have := hu.ne_blk hb he
  rw [hg'] at this
  exact this e2.symm
theorem grownBy_setCells {w : World} {g : Nat} (vs : List Value) (o : Nat) : w.grownBy (w.setCells g o vs) (some g) := by
 have h := onlyG_setCells g vs o w
 exact ⟨h.1.1, h.1.2, h.1.3, h.2.1, fun k hk hne => h.2.2 k hk fun e => hne (by rw [e])⟩
theorem noNode_o (w : World) (B : Nat) : NodeO w B noNodeD #[.int .u8 0, .slice none 0 0, .slice none 0 0, .slice none 0 0, .int .u8 0, .slice none 0 0, .slice none 0 0, .slice none 0 0, .slice none 0 0, .slice none 0 0] :=
 ⟨_, _, _, _, _, _, _, _, rfl, Own.nil _ _ _, Own.nil _ _ _, Own.nil _ _ _, Own.nil _ _ _, Own.nil _ _ _, Own.nil _ _ _, Own.nil _ _ _, Own.nil _ _ _⟩
/-- a node is replaced by new cells -/
theorem TreeF.put {w : World} {B g cap : Nat} {n : Nat} {F : Nat → NodeD} (h : TreeF w B (.slice (some ⟨g, 0, none⟩) n cap) n F) {x : Nat} (hx : x < n) {d : NodeD} {cs : Array Value} (hc : cs.size = 10) (hd : NodeO w B d cs)
  (hap : ∀ xs, (∀ y, y < n → y ≠ x → NodeO w B (F y) (cellsAt xs y).toArray) → ∀ y, y < n → y ≠ x → apart2 (lateV xs y) (cs.toList.getD 9 undef) ∧ apart2 (cs.toList.getD 9 undef) (lateV xs y)) :
  TreeF (w.setCells g (10 * x) cs.toList) B (.slice (some ⟨g, 0, none⟩) n cap) n (fun y => if y = x then d else F y) := by
 obtain ⟨xs, h1, h2, h3, h4⟩ := h
 obtain ⟨cur, hb, hB, hl, hcs⟩ := h1.blk
 have hg := grownBy_setCells (w := w) (g := g) cs.toList (10 * x)
 have hc' : cs.toList.length = 10 := by simpa using hc
 have hcell := fun j => cellsAt_put (vs := cs.toList) h2 hx hc' j
 have hap := hap xs fun y hy _ => h3 y hy
 refine ⟨putL xs (10 * x) cs.toList, h1.put _ _, by rw [putL_len]; exact h2, fun j hj => ?_, fun j k hjk hk => ?_⟩
 ·rw [hcell j]
  by_cases e : j = x
  ·simp only [e, if_true]; exact hd.grownA hb hg
  ·simp only [e, if_false]; exact (h3 j hj).grownA hb hg
 ·unfold lateV
  rw [hcell j, hcell k]
  by_cases e1 : j = x
  ·subst e1
   rw [if_pos rfl, if_neg (by omega)]
   exact (hap k hk (by omega)).2
  ·rw [if_neg e1]
   by_cases e2 : k = x
   ·subst e2
    rw [if_pos rfl]
    exact (hap j (by omega) e1).1
   ·rw [if_neg e2]; exact h4 j k hjk hk
theorem TreeF.blank {w : World} {B g cap : Nat} {n : Nat} {F : Nat → NodeD} (h : TreeF w B (.slice (some ⟨g, 0, none⟩) n cap) n F) {x : Nat} (hx : x < n) :
  TreeF (w.setCells g (10 * x) [.int .u8 0, .slice none 0 0, .slice none 0 0, .slice none 0 0, .int .u8 0, .slice none 0 0, .slice none 0 0, .slice none 0 0, .slice none 0 0, .slice none 0 0]) B (.slice (some ⟨g, 0, none⟩) n cap) n (fun y => if y = x then noNodeD else F y) :=
 h.put hx (cs := #[.int .u8 0, .slice none 0 0, .slice none 0 0, .slice none 0 0, .int .u8 0, .slice none 0 0, .slice none 0 0, .slice none 0 0, .slice none 0 0, .slice none 0 0]) rfl (noNode_o _ _) fun xs _ y hy _ => ⟨fun g _ h2 => by simp [Value.ownBlock] at h2, fun g h2 => by simp [Value.ownBlock] at h2⟩
end Go.Proofs.YtngealmhgkoaiaaGreat
