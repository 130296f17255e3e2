/- Plain: an own copy of a tree of which some nodes are replaced; a tree without some leaves may be filled. -/
import Derived.Test.YtlcmodbjbdfloaaZTreeAdds23
import Derived.Test.YtlcmodbjbdfloaaZTreeAdds34
import Derived.Laws.OwnMore
import Derived.Test.YtlcmodbjbdfloaaZTreeAdds20
import Derived.Test.YtlcmodbjbdfloaaZTreeAdds35
import Derived.Test.YtlcmodbjbdfloaaZTreeAdds24
import Derived.Test.YtlcmodbjbdfloaaZTreeAdds04
namespace Go.Proofs.Ytlcmodbjbdfloaa
open Go.RowKit WalkM ShaM WireM
set_option linter.unusedVariables false
theorem lateB_pw {L : List Int} : lateB L = true ↔ L.Pairwise (· < ·) ∧ ∀ x ∈ L, 0 ≤ x ∧ x < 65536 := by
  constructor
  · intro h
    refine ⟨?_, late_bd h⟩
    rw [lateB_iff] at h
    have key : ∀ j, ∀ i, i < j → j < L.length → L.getD i 0 < L.getD j 0 := by
      intro j
      induction j with
      | zero => intro i hi; omega
      | succ j ih =>
        intro i hi hj
        have h1 := (h (j + 1) hj).1
        unfold prevZ at h1
        rw [if_neg (by omega), Nat.add_sub_cancel] at h1
        by_cases e : i = j
        · subst e; exact h1
        · have := ih i (by omega) (by omega); omega
    rw [List.pairwise_iff_getElem]
    intro i j hi hj hij
    have := key j i hij hj
    simpa [List.getD_eq_getElem?_getD, hi, hj] using this
  · rintro ⟨h1, h2⟩
    rw [lateB_iff]
    intro i hi
    have hb := h2 _ (List.getElem_mem hi)
    have e : L.getD i 0 = L[i] := by simp [List.getD_eq_getElem?_getD, hi]
    rw [e]
    refine ⟨?_, hb.2⟩
    unfold prevZ
    split
    · omega
    · have := (List.pairwise_iff_getElem.1 h1) (i - 1) i (by omega) hi (by omega)
      rw [show L.getD (i - 1) 0 = L[i - 1] by simp [List.getD_eq_getElem?_getD, show i - 1 < L.length by omega]]
      exact this
theorem lateB_filter {L : List Int} (h : lateB L = true) (p : Int → Bool) : lateB (L.filter p) = true := by
  rw [lateB_pw] at h ⊢
  exact ⟨h.1.filter p, fun x hx => h.2 x (List.mem_filter.1 hx).1⟩
theorem rightB_late {d : NodeD} (h : rightB d = true) (p : Int → Bool) : rightB ⟨d.kind, d.leaf, ⟨d.par.box, d.par.hash, d.par.late.filter p⟩⟩ = true := by
  by_cases hk : d.kind = 2
  · unfold rightB at h ⊢
    simp only [hk, if_true, if_false, Nat.reduceEqDiff] at h ⊢
    rw [Bool.and_eq_true] at h ⊢
    refine ⟨h.1, ?_⟩
    have h2 := h.2
    rw [rpB, Bool.and_eq_true] at h2 ⊢
    exact ⟨lateB_filter h2.1 p, h2.2⟩
  · have hl := right_nolate h hk
    obtain ⟨k, l, b, hh, la⟩ := d
    simp only at hl
    subst hl
    exact h
theorem woD_right {t : List NodeD} {x : Nat} (hr : rightB (nd t x) = true) (ps : List Int) : rightB (woD t ps x) = true := by
  unfold woD
  split
  · split
    · rfl
    · exact hr
  · exact rightB_late hr _
theorem woD_kind {t : List NodeD} {x : Nat} (hr : (nd t x).kind ≠ otherK x) (ps : List Int) : (woD t ps x).kind ≠ otherK x := by
  unfold woD
  split
  · rename_i h
    split
    · rw [otherK_even h]; decide
    · exact hr
  · exact hr
/-- a list out of a function -/
def listT (n : Nat) (F : Nat → NodeD) : List NodeD := (List.range n).map F
theorem listT_len (n : Nat) (F : Nat → NodeD) : (listT n F).length = n := by simp [listT]
theorem listT_nd {n : Nat} {F : Nat → NodeD} {x : Nat} (h : x < n) : nd (listT n F) x = F x := by
  simp [nd, listT, List.getD_eq_getElem?_getD, h]
theorem listT_self (t : List NodeD) : listT t.length (nd t) = t := by
  apply List.ext_getElem
  · rw [listT_len]
  · intro i h1 h2
    simp [listT, nd, List.getD_eq_getElem?_getD, h2]
theorem listT_congr {n : Nat} {F G : Nat → NodeD} (h : ∀ x, x < n → F x = G x) : listT n F = listT n G := by
  unfold listT
  exact List.map_congr_left fun x hx => h x (List.mem_range.1 hx)
theorem listT_small {n : Nat} {F : Nat → NodeD} (hn : n ≤ 40) (h : ∀ x, x < n → smallB (F x) = true) : smallT (listT n F) = true := by
  rw [smallT, Bool.and_eq_true, listT_len]
  refine ⟨decide_eq_true hn, List.all_eq_true.2 fun d hd => ?_⟩
  obtain ⟨x, hx, rfl⟩ := List.mem_map.1 hd
  exact h x (List.mem_range.1 hx)
theorem listT_ok {n : Nat} {F : Nat → NodeD} (h : ∀ x, x < n → NodeOk (F x)) : TreeOk (listT n F) := by
  intro d hd
  obtain ⟨x, hx, rfl⟩ := List.mem_map.1 hd
  exact h x (List.mem_range.1 hx)
theorem listT_placed {n : Nat} {F : Nat → NodeD} (h : ∀ x, x < n → (F x).kind ≠ otherK x ∧ rightB (F x) = true) : placedB (listT n F) = true := by
  rw [placedB_iff, listT_len]
  intro x hx
  rw [listT_nd hx]
  exact h x hx
theorem wo_small {t : List NodeD} (h : smallT t = true) (ps : List Int) : smallT (listT t.length (woD t ps)) = true := listT_small (smallT_len h) fun x _ => woD_small h ps x
theorem wo_ok {t : List NodeD} (h : TreeOk t) (ps : List Int) : TreeOk (listT t.length (woD t ps)) := listT_ok fun x _ => woD_ok h ps x
theorem wo_placed {t : List NodeD} (h : placedB t = true) (ps : List Int) : placedB (listT t.length (woD t ps)) = true := listT_placed fun x hx => ⟨woD_kind (placed_at h hx).1 ps, woD_right (placed_at h hx).2 ps⟩
theorem hashN_congr {T T' : Nat → NodeD} : ∀ (k x : Nat), x + 2 ^ k ≤ 131071 → IsLev x k → (∀ y, x + 1 ≤ y + 2 ^ k → y < x + 2 ^ k → T y = T' y) → hashN T k x = hashN T' k x
  | 0, x, _, _, h => by simp only [hashN]; rw [h x (by simp) (by simp)]
  | k + 1, x, hx, hl, h => by
    have e : 2 ^ (k + 1) = 2 * 2 ^ k := by rw [Nat.pow_succ]; omega
    have hp : 0 < 2 ^ k := Nat.pos_of_ne_zero (by simp)
    obtain ⟨_, _, h1, h2, hk⟩ := kids_lev (by omega) hl
    simp only [hashN]
    rw [h x (by omega) (by omega), hashN_congr k (x - 2 ^ k) (by omega) h1 (fun y a b => h y (by omega) (by omega)), hashN_congr k (x + 2 ^ k) (by omega) h2 (fun y a b => h y (by omega) (by omega))]
theorem wo_hash (t : List NodeD) (ps : List Int) {k x : Nat} (hl : IsLev x k) (hx : x + 2 ^ k ≤ t.length) (hn : t.length ≤ 40) : hashN (nd (listT t.length (woD t ps))) k x = hashN (woD t ps) k x :=
  hashN_congr k x (by omega) hl fun y _ h => listT_nd (by omega)
/-- some cells of a list replaced -/
def putL (xs : List Value) (o : Nat) : List Value → List Value
  | [] => xs
  | v :: vs => putL (xs.set o v) (o + 1) vs
theorem putL_len : ∀ (vs xs : List Value) (o : Nat), (putL xs o vs).length = xs.length
  | [], _, _ => rfl
  | v :: vs, xs, o => by rw [putL, putL_len vs, List.length_set]
theorem putL_get : ∀ (vs xs : List Value) (o : Nat), o + vs.length ≤ xs.length → ∀ j, (putL xs o vs)[j]? = if o ≤ j ∧ j < o + vs.length then vs[j - o]? else xs[j]?
  | [], xs, o, _, j => by rw [putL, if_neg (by simp)]
  | v :: vs, xs, o, h, j => by
    rw [List.length_cons] at h
    rw [putL, putL_get vs (xs.set o v) (o + 1) (by rw [List.length_set]; omega) j, List.length_cons]
    by_cases h1 : o + 1 ≤ j ∧ j < o + 1 + vs.length
    · rw [if_pos h1, if_pos (by omega), show j - o = (j - (o + 1)) + 1 by omega, List.getElem?_cons_succ]
    · rw [if_neg h1]
      by_cases h2 : j = o
      · subst h2
        rw [if_pos (by omega), Nat.sub_self, List.getElem?_cons_zero, List.getElem?_set_self (by omega)]
      · rw [if_neg (by omega), List.getElem?_set_ne (fun e => h2 e.symm)]
theorem cellsAt_get? (xs : List Value) (j k : Nat) : (cellsAt xs j)[k]? = if k < 10 then xs[10 * j + k]? else none := by
  unfold cellsAt
  rw [List.getElem?_take, List.getElem?_drop]
theorem cellsAt_put {xs vs : List Value} {n x : Nat} (h : xs.length = 10 * n) (hx : x < n) (hv : vs.length = 10) (j : Nat) : cellsAt (putL xs (10 * x) vs) j = if j = x then vs else cellsAt xs j := by
  apply List.ext_getElem?
  intro k
  rw [cellsAt_get?]
  by_cases hk : k < 10
  · rw [if_pos hk, putL_get _ _ _ (by omega)]
    by_cases e : j = x
    · subst e
      rw [if_pos (by omega), if_pos rfl]
      congr 1
      omega
    · rw [if_neg (by omega), if_neg e, cellsAt_get?, if_pos hk]
  · rw [if_neg hk]
    by_cases e : j = x
    · rw [if_pos e, List.getElem?_eq_none (by omega)]
    · rw [if_neg e, cellsAt_get?, if_neg hk]
theorem cellsAt_set {xs : List Value} {n x : Nat} (h : xs.length = 10 * n) (hx : x < n) (k : Nat) (hk : k < 10) (u : Value) (j : Nat) : cellsAt (xs.set (10 * x + k) u) j = if j = x then (cellsAt xs x).set k u else cellsAt xs j := by
  apply List.ext_getElem?
  intro i
  rw [cellsAt_get?]
  by_cases hi : i < 10
  · rw [if_pos hi]
    by_cases e : j = x
    · subst e
      rw [if_pos rfl]
      by_cases ek : i = k
      · subst ek
        rw [List.getElem?_set_self (by omega), List.getElem?_set_self (by unfold cellsAt; rw [List.length_take, List.length_drop]; omega)]
      · rw [List.getElem?_set_ne (by omega), List.getElem?_set_ne (fun e => ek e.symm), cellsAt_get?, if_pos hi]
    · rw [if_neg e, List.getElem?_set_ne (by omega), cellsAt_get?, if_pos hi]
  · rw [if_neg hi]
    by_cases e : j = x
    · rw [if_pos e, List.getElem?_eq_none (by rw [List.length_set]; unfold cellsAt; rw [List.length_take]; omega)]
    · rw [if_neg e, cellsAt_get?, if_neg hi]
theorem OwnK.put {B : Nat} {e : TypeId} {k g n cap : Nat} : ∀ (vs : List Value) (o : Nat) {w : World} {xs : List Value}, OwnK w B e k (.slice (some ⟨g, 0, none⟩) n cap) n xs → OwnK (w.setCells g o vs) B e k (.slice (some ⟨g, 0, none⟩) n cap) n (putL xs o vs)
  | [], _, _, _, h => h
  | v :: vs, o, w, xs, h => by
    rw [World.setCells, putL]
    exact OwnK.put vs (o + 1) (World.ownsRow.stored h o v).1
theorem OwnK.blk {w : World} {B : Nat} {e : TypeId} {k g n cap : Nat} {xs : List Value} (h : OwnK w B e k (.slice (some ⟨g, 0, none⟩) n cap) n xs) : ∃ cur, Blk w g e cur ∧ B ≤ g ∧ g < w.heap.size ∧ n * k ≤ cur.size := by
  rcases h.2 with ⟨h', _⟩ | ⟨g', cap', cur, h', hb, hg, hnc, hcm, hcs, htake⟩
  · simp at h'
  · simp only [Value.slice.injEq, Option.some.injEq, Addr.mk.injEq, and_true, true_and] at h'
    obtain ⟨rfl, rfl⟩ := h'
    refine ⟨cur, hg, hb, Blk.lt hg, ?_⟩
    rw [hcs]
    exact Nat.mul_le_mul_right _ hnc
/-- a tree in new memory, as a function -/
def TreeF (w : World) (B : Nat) (v : Value) (n : Nat) (F : Nat → NodeD) : Prop :=
  ∃ xs, OwnK w B 45 10 v n xs ∧ xs.length = 10 * n ∧ (∀ j, j < n → NodeO w B (F j) (cellsAt xs j).toArray) ∧ ∀ j k, j < k → k < n → apart2 (lateV xs j) (lateV xs k)
theorem TreeF.o {w : World} {B : Nat} {v : Value} {n : Nat} {F : Nat → NodeD} (h : TreeF w B v n F) : TreeO w B v (listT n F) := by
  obtain ⟨xs, h1, h2, h3, h4⟩ := h
  refine ⟨xs, by rw [listT_len]; exact h1, ?_⟩
  rw [listT_len]
  exact ⟨h2, fun j hj => by rw [listT_nd hj]; exact h3 j hj, h4⟩
theorem TreeO.f {w : World} {B : Nat} {v : Value} {t : List NodeD} (h : TreeO w B v t) : TreeF w B v t.length (nd t) := by
  obtain ⟨xs, h1, h2, h3, h4⟩ := h
  exact ⟨xs, h1, h2, h3, h4⟩
theorem TreeF.congr {w : World} {B : Nat} {v : Value} {n : Nat} {F G : Nat → NodeD} (h : TreeF w B v n F) (e : ∀ x, x < n → G x = F x) : TreeF w B v n G := by
  obtain ⟨xs, h1, h2, h3, h4⟩ := h
  exact ⟨xs, h1, h2, fun j hj => by rw [e j hj]; exact h3 j hj, h4⟩
theorem TreeF.below {w w' : World} {B B' : Nat} {v : Value} {n : Nat} {F : Nat → NodeD} (h : TreeF w B v n F) (hb : Below B' w w') (hB : w.heap.size ≤ B') : TreeF w' B v n F := by
  obtain ⟨xs, h1, h2, h3, h4⟩ := h
  exact ⟨xs, h1.below hb hB, h2, fun j hj => (h3 j hj).below hb hB, h4⟩
theorem TreeF.alloc {w : World} {B : Nat} {v : Value} {n : Nat} {F : Nat → NodeD} (h : TreeF w B v n F) (o : Obj) : TreeF (w.alloc o) B v n F := h.below ((Below.refl _ _).alloc (Nat.le_refl _) o) (Nat.le_refl _)
theorem TreeF.sl {w : World} {B : Nat} {v : Value} {n : Nat} {F : Nat → NodeD} (h : TreeF w B v n F) (hn : 0 < n) : ∃ g cap, v = .slice (some ⟨g, 0, none⟩) n cap ∧ B ≤ g ∧ g < w.heap.size ∧ n ≤ cap ∧ cap ≤ maxLen := by
  obtain ⟨xs, h1, h2, h3, h4⟩ := h
  obtain ⟨g, cap, e, k1, k2, k3, k4, _⟩ := h1.out hn
  exact ⟨g, cap, e, k1, k2, k3, k4⟩
/-- the cells of a node in place -/
theorem TreeF.at {w : World} {B g cap : Nat} {n : Nat} {F : Nat → NodeD} (h : TreeF w B (.slice (some ⟨g, 0, none⟩) n cap) n F) {x : Nat} (hx : x < n) : ∃ cs : Array Value, cs.size = 10 ∧ NodeO w B (F x) cs ∧ w.rangeAt g (10 * x) cs.toList ∧ w.there g (10 * x) 10 := by
  obtain ⟨xs, h1, h2, h3, h4⟩ := h
  have hno := h3 x hx
  have hsz : (cellsAt xs x).length = 10 := by unfold cellsAt; rw [List.length_take, List.length_drop]; omega
  obtain ⟨cur, hb, hB, hl, hcs⟩ := h1.blk
  refine ⟨_, by simpa using hsz, hno, ?_, hb.there _ _ (by omega)⟩
  intro j u hu
  obtain ⟨g', cap', e, _, _, _, _, hc, _⟩ := h1.out (by omega)
  simp only [Value.slice.injEq, Option.some.injEq, Addr.mk.injEq, and_true, true_and] at e
  obtain ⟨rfl, rfl⟩ := e
  exact hc _ u (cellsAt_get h2 hx (by simpa using hu))
theorem NodeO.grownA {w w' : World} {B g : Nat} {d : NodeD} {c cur : Array Value} (h : NodeO w B d c) (hb : Blk w g 45 cur) (hg : w.grownBy w' (some g)) : NodeO w' B d c :=
  h.keep fun e v xs he hu => hu.grown hg fun g' hg' => by
    intro e2
    have := hu.ne_blk hb he
    rw [hg'] at this
    exact this e2.symm
theorem grownBy_setCells {w : World} {g : Nat} (vs : List Value) (o : Nat) : w.grownBy (w.setCells g o vs) (some g) := by
  have h := onlyG_setCells g vs o w
  exact ⟨h.1.1, h.1.2, h.1.3, h.2.1, fun k hk hne => h.2.2 k hk fun e => hne (by rw [e])⟩
theorem noNode_o (w : World) (B : Nat) : NodeO w B noNodeD #[.int .u8 0, .slice none 0 0, .slice none 0 0, .slice none 0 0, .int .u8 0, .slice none 0 0, .slice none 0 0, .slice none 0 0, .slice none 0 0, .slice none 0 0] :=
  ⟨_, _, _, _, _, _, _, _, rfl, Own.nil _ _ _, Own.nil _ _ _, Own.nil _ _ _, Own.nil _ _ _, Own.nil _ _ _, Own.nil _ _ _, Own.nil _ _ _, Own.nil _ _ _⟩
/-- a node is replaced by new cells -/
theorem TreeF.put {w : World} {B g cap : Nat} {n : Nat} {F : Nat → NodeD} (h : TreeF w B (.slice (some ⟨g, 0, none⟩) n cap) n F) {x : Nat} (hx : x < n) {d : NodeD} {cs : Array Value} (hc : cs.size = 10) (hd : NodeO w B d cs)
    (hap : ∀ xs, (∀ y, y < n → y ≠ x → NodeO w B (F y) (cellsAt xs y).toArray) → ∀ y, y < n → y ≠ x → apart2 (lateV xs y) (cs.toList.getD 9 undef) ∧ apart2 (cs.toList.getD 9 undef) (lateV xs y)) :
    TreeF (w.setCells g (10 * x) cs.toList) B (.slice (some ⟨g, 0, none⟩) n cap) n (fun y => if y = x then d else F y) := by
  obtain ⟨xs, h1, h2, h3, h4⟩ := h
  obtain ⟨cur, hb, hB, hl, hcs⟩ := h1.blk
  have hg := grownBy_setCells (w := w) (g := g) cs.toList (10 * x)
  have hc' : cs.toList.length = 10 := by simpa using hc
  have hcell := fun j => cellsAt_put (vs := cs.toList) h2 hx hc' j
  have hap := hap xs fun y hy _ => h3 y hy
  refine ⟨putL xs (10 * x) cs.toList, h1.put _ _, by rw [putL_len]; exact h2, fun j hj => ?_, fun j k hjk hk => ?_⟩
  · rw [hcell j]
    by_cases e : j = x
    · simp only [e, if_true]; exact hd.grownA hb hg
    · simp only [e, if_false]; exact (h3 j hj).grownA hb hg
  · unfold lateV
    rw [hcell j, hcell k]
    by_cases e1 : j = x
    · subst e1
      rw [if_pos rfl, if_neg (by omega)]
      exact (hap k hk (by omega)).2
    · rw [if_neg e1]
      by_cases e2 : k = x
      · subst e2
        rw [if_pos rfl]
        exact (hap j (by omega) e1).1
      · rw [if_neg e2]; exact h4 j k hjk hk
theorem TreeF.blank {w : World} {B g cap : Nat} {n : Nat} {F : Nat → NodeD} (h : TreeF w B (.slice (some ⟨g, 0, none⟩) n cap) n F) {x : Nat} (hx : x < n) :
    TreeF (w.setCells g (10 * x) [.int .u8 0, .slice none 0 0, .slice none 0 0, .slice none 0 0, .int .u8 0, .slice none 0 0, .slice none 0 0, .slice none 0 0, .slice none 0 0, .slice none 0 0]) B (.slice (some ⟨g, 0, none⟩) n cap) n (fun y => if y = x then noNodeD else F y) :=
  h.put hx (cs := #[.int .u8 0, .slice none 0 0, .slice none 0 0, .slice none 0 0, .int .u8 0, .slice none 0 0, .slice none 0 0, .slice none 0 0, .slice none 0 0, .slice none 0 0]) rfl (noNode_o _ _) fun xs _ y hy _ => ⟨fun g _ h2 => by simp [Value.ownBlock] at h2, fun g h2 => by simp [Value.ownBlock] at h2⟩
end Go.Proofs.Ytlcmodbjbdfloaa
/- Plain: what a tree is with a leaf added: place by place; the place that is free first; a late list with a number put in. -/
namespace Go.Proofs.Ytlcmodbjbdfloaa
open Go.RowKit WalkM WireM
set_option linter.unusedVariables false
/-- a number put into rising ones -/
def insL (L : List Int) (x : Int) : List Int := (L.filter fun u => decide (u < x)) ++ [x] ++ L.filter fun u => decide (x < u)
theorem getD_mem {L : List Int} {u : Int} (h : u ∈ L) : ∃ k, k < L.length ∧ L.getD k 0 = u := by
  obtain ⟨k, hk, e⟩ := List.getElem_of_mem h
  exact ⟨k, hk, by rw [List.getD_eq_getElem?_getD, List.getElem?_eq_getElem hk]; exact e⟩
theorem insL_of {L : List Int} {x : Int} {p : Nat} (hp : p ≤ L.length) (h1 : ∀ k, k < p → L.getD k 0 < x) (h2 : ∀ k, p ≤ k → k < L.length → x ≤ L.getD k 0) (hx : x ∉ L) : L.take p ++ [x] ++ L.drop p = insL L x := by
  have m1 : ∀ u ∈ L.take p, u < x := fun u hu => by
    obtain ⟨k, hk, e⟩ := getD_mem hu
    rw [List.length_take] at hk
    have := h1 k (by omega)
    rw [List.getD_eq_getElem?_getD, List.getElem?_take, if_pos (by omega), ← List.getD_eq_getElem?_getD] at e
    omega
  have m2 : ∀ u ∈ L.drop p, x < u := fun u hu => by
    obtain ⟨k, hk, e⟩ := getD_mem hu
    rw [List.length_drop] at hk
    have := h2 (p + k) (by omega) (by omega)
    rw [List.getD_eq_getElem?_getD, List.getElem?_drop, ← List.getD_eq_getElem?_getD] at e
    have hne : u ≠ x := fun e2 => hx (by rw [← e2]; exact List.mem_of_mem_drop hu)
    omega
  have eL : L = L.take p ++ L.drop p := (List.take_append_drop p L).symm
  have f1 : (L.filter fun u => decide (u < x)) = L.take p := by
    conv => lhs; rw [eL]
    rw [List.filter_append, List.filter_eq_self.2 fun u hu => decide_eq_true (m1 u hu), List.filter_eq_nil_iff.2 fun u hu => by have := m2 u hu; simp; omega, List.append_nil]
  have f2 : (L.filter fun u => decide (x < u)) = L.drop p := by
    conv => lhs; rw [eL]
    rw [List.filter_append, List.filter_eq_self.2 fun u hu => decide_eq_true (m2 u hu), List.filter_eq_nil_iff.2 fun u hu => by have := m1 u hu; simp; omega, List.nil_append]
  unfold insL
  rw [f1, f2]
def lateIns (d : NodeD) (x : Int) : NodeD := ⟨d.kind, d.leaf, ⟨d.par.box, d.par.hash, insL d.par.late x⟩⟩
/-- the tree with a leaf added, the late lists of the way up to a level done -/
def addR (t : List NodeD) (l : LeafD) (i r x : Nat) : NodeD :=
  if x = 2 * i then heldD l else if (nd t x).kind = 2 ∧ lev x ≤ r ∧ x = anc (2 * i) (lev x) then lateIns (nd t x) (i : Nat) else nd t x
/-- the tree with a leaf added -/
def addF (t : List NodeD) (l : LeafD) (i x : Nat) : NodeD :=
  if x = 2 * i then heldD l else if (nd t x).kind = 2 ∧ x = anc (2 * i) (lev x) then lateIns (nd t x) (i : Nat) else nd t x
theorem addR_end (t : List NodeD) (l : LeafD) {d i x : Nat} (hd : d ≤ 16) (hi : 2 * i + 1 < 2 ^ (d + 1)) (hx : x + 1 < 2 ^ (d + 1)) : addR t l i d x = addF t l i x := by
  have h17 := two_pow_le (show d + 1 ≤ 17 by omega)
  have hl := (lev_root hx (lev_is (by omega))).1
  unfold addR addF
  by_cases e : x = 2 * i
  · rw [if_pos e, if_pos e]
  · rw [if_neg e, if_neg e]
    by_cases h : (nd t x).kind = 2 ∧ x = anc (2 * i) (lev x)
    · rw [if_pos h, if_pos ⟨h.1, hl, h.2⟩]
    · rw [if_neg h, if_neg (by rintro ⟨a, b, c⟩; exact h ⟨a, c⟩)]
theorem addR_zero (t : List NodeD) (l : LeafD) {i x : Nat} (hx : x ≤ 131070) : addR t l i 0 x = if x = 2 * i then heldD l else nd t x := by
  unfold addR
  by_cases e : x = 2 * i
  · rw [if_pos e, if_pos e]
  · rw [if_neg e, if_neg e, if_neg]
    rintro ⟨a, b, c⟩
    have h0 : lev x = 0 := by omega
    rw [h0] at c
    apply e
    have h2 : IsLev (2 * i) 0 := by unfold IsLev; simp
    rw [anc_self h2] at c
    exact c
theorem anc_in {q d j : Nat} (hd : d ≤ 16) (hq : q + 1 < 2 ^ (d + 1)) (hj : j ≤ d) : anc q j + 1 < 2 ^ (d + 1) ∧ lev (anc q j) = j := by
  have h17 := two_pow_le (show d + 1 ≤ 17 by omega)
  have h := anc_le (x := q) (by omega) hj
  exact ⟨h, lev_eq (by omega) (anc_lev q j)⟩
theorem addR_at (t : List NodeD) (l : LeafD) {d i r : Nat} (hd : d ≤ 16) (hi : 2 * i + 1 < 2 ^ (d + 1)) (hr : r < d) : addR t l i r (anc (2 * i) (r + 1)) = nd t (anc (2 * i) (r + 1)) := by
  have h1 := anc_in hd hi (show r + 1 ≤ d by omega)
  have h2 := anc_odd (2 * i) (show 1 ≤ r + 1 by omega)
  unfold addR
  rw [if_neg (by omega), if_neg (by rw [h1.2]; rintro ⟨_, h, _⟩; omega)]
theorem addR_step (t : List NodeD) (l : LeafD) {d i r x : Nat} (hd : d ≤ 16) (hi : 2 * i + 1 < 2 ^ (d + 1)) (hr : r < d) (hx : x + 1 < 2 ^ (d + 1)) :
    addR t l i (r + 1) x = if x = anc (2 * i) (r + 1) then (if (nd t x).kind = 2 then lateIns (nd t x) (i : Nat) else nd t x) else addR t l i r x := by
  have h1 := anc_in hd hi (show r + 1 ≤ d by omega)
  have h2 := anc_odd (2 * i) (show 1 ≤ r + 1 by omega)
  by_cases e : x = anc (2 * i) (r + 1)
  · rw [if_pos e]
    unfold addR
    rw [if_neg (by omega)]
    have hlx : lev x = r + 1 := by rw [e]; exact h1.2
    by_cases hk : (nd t x).kind = 2
    · rw [if_pos hk, if_pos ⟨hk, by omega, by rw [hlx]; exact e⟩]
    · rw [if_neg hk, if_neg (fun h => hk h.1)]
  · rw [if_neg e]
    unfold addR
    by_cases e1 : x = 2 * i
    · rw [if_pos e1, if_pos e1]
    · rw [if_neg e1, if_neg e1]
      by_cases h : (nd t x).kind = 2 ∧ lev x ≤ r ∧ x = anc (2 * i) (lev x)
      · rw [if_pos h, if_pos ⟨h.1, by omega, h.2.2⟩]
      · rw [if_neg h, if_neg]
        rintro ⟨a, b, c⟩
        by_cases e2 : lev x ≤ r
        · exact h ⟨a, e2, c⟩
        · have : lev x = r + 1 := by omega
          rw [this] at c
          exact e c
/-- the places below are taken -/
def taken (t : List NodeD) (i : Nat) : Prop := ∀ j, j < i → (nd t (2 * j)).kind = 1
/-- the free place that is first: of a row of so many leaves -/
def freeLeaf (t : List NodeD) (n i : Nat) : Prop := i ≤ n ∧ taken t i ∧ (i < n → (nd t (2 * i)).kind ≠ 1)
theorem freeLeaf_uniq {t : List NodeD} {n i j : Nat} (h : freeLeaf t n i) (h' : freeLeaf t n j) : i = j := by
  rcases Nat.lt_trichotomy i j with e | e | e
  · exact absurd (h'.2.1 i e) (h.2.2 (by have := h'.1; omega))
  · exact e
  · exact absurd (h.2.1 j e) (h'.2.2 (by have := h.1; omega))
theorem freeLeaf_is (t : List NodeD) (n : Nat) : ∃ i, freeLeaf t n i := by
  have key : ∀ k, k ≤ n → (∃ i, i < k ∧ taken t i ∧ (nd t (2 * i)).kind ≠ 1) ∨ taken t k := by
    intro k
    induction k with
    | zero => exact fun _ => .inr fun j hj => by omega
    | succ k ih =>
      intro hk
      rcases ih (by omega) with ⟨i, h1, h2, h3⟩ | h
      · exact .inl ⟨i, by omega, h2, h3⟩
      · by_cases e : (nd t (2 * k)).kind = 1
        · exact .inr fun j hj => by
            by_cases e2 : j = k
            · rw [e2]; exact e
            · exact h j (by omega)
        · exact .inl ⟨k, by omega, h, e⟩
  rcases key n (Nat.le_refl _) with ⟨i, h1, h2, h3⟩ | h
  · exact ⟨i, by omega, h2, fun _ => h3⟩
  · exact ⟨n, Nat.le_refl _, h, fun h => by omega⟩
theorem nd_out {t : List NodeD} {x : Nat} (h : t.length ≤ x) : nd t x = noNodeD := by
  unfold nd; rw [List.getD_eq_getElem?_getD, List.getElem?_eq_none h]; rfl
/-- a free place is nobody's late leaf -/
theorem free_notLate {t : List NodeD} (hr : rightT t = true) {i x : Nat} (hi : (nd t (2 * i)).kind ≠ 1) : ((i : Nat) : Int) ∉ (nd t x).par.late := by
  intro hm
  rcases Nat.lt_or_ge x t.length with hx | hx
  · rw [rightT, Bool.and_eq_true, Bool.and_eq_true, Bool.and_eq_true] at hr
    obtain ⟨h1, hp, _, hl⟩ := hr
    obtain ⟨d, hd, hN, hlen⟩ := leavesN_pos (of_decide_eq_true h1)
    have hL := lateTB_out (latesB_out hl x hx) _ hm
    have h4 := hL.2.2.1
    rw [show (2 * ((i : Nat) : Int)).toNat = 2 * i by omega] at h4
    have h0 := hL.1
    rw [hN] at h0
    have hii : i < 2 ^ d := by omega
    have hlt : 2 * i < t.length := by omega
    have hpl := placed_at hp hlt
    rw [otherK_even (by omega)] at hpl
    rcases right_kind hpl.2 with e | e | e
    · exact h4 e
    · exact hi e
    · exact hpl.1 e
  · rw [nd_out hx] at hm
    cases hm
theorem free_zero {t : List NodeD} (hr : rightT t = true) {i : Nat} (hi : (nd t (2 * i)).kind ≠ 1) : (nd t (2 * i)).kind = 0 := by
  rcases Nat.lt_or_ge (2 * i) t.length with hx | hx
  · rw [rightT, Bool.and_eq_true, Bool.and_eq_true] at hr
    have hpl := placed_at hr.2.1 hx
    rw [otherK_even (by omega)] at hpl
    rcases right_kind hpl.2 with e | e | e
    · exact e
    · exact absurd e hi
    · exact absurd e hpl.1
  · rw [nd_out hx]; rfl
end Go.Proofs.Ytlcmodbjbdfloaa
/- Walks: the reference's put: a number into rising ones. -/
namespace Go.Proofs.Ytlcmodbjbdfloaa
open Go.RowKit WalkM WireM
set_option linter.unusedVariables false
theorem filt_yes {L : List Int} {r : Nat} (p : Int → Bool) (h : r < L.length) (hp : p (L.getD r 0) = true) : (L.take (r + 1)).filter p = (L.take r).filter p ++ [L.getD r 0] := by
  have e : L.getD r 0 = L[r] := by simp [List.getD_eq_getElem?_getD, h]
  rw [List.take_succ_eq_append_getElem h, List.filter_append, ← e, List.filter_cons_of_pos hp, List.filter_nil]
theorem filt_no {L : List Int} {r : Nat} (p : Int → Bool) (h : r < L.length) (hp : p (L.getD r 0) = false) : (L.take (r + 1)).filter p = (L.take r).filter p := by
  have e : L.getD r 0 = L[r] := by simp [List.getD_eq_getElem?_getD, h]
  rw [List.take_succ_eq_append_getElem h, List.filter_append, ← e, List.filter_cons_of_neg (by rw [hp]; simp), List.filter_nil, List.append_nil]
set_option maxRecDepth 100000 in
set_option maxHeartbeats 8000000 in
theorem tput_any (v : Value) (L : List Int) (x : Int) (w : World) (h : Rd w v (ivs .i64 L)) (hl : L.length ≤ 1000) :
    Calls Try.prog 42 #[v, .int .i64 x] w fun e w' => ∃ v', e = .returned v' ∧ Own w' w.heap.size 3 v' (ivs .i64 (insL L x)) ∧ Below w.heap.size w w' := by
  have hv : ∃ a c, v = .slice a L.length c := by obtain ⟨a, c, e, h1, h2, _⟩ := h; exact ⟨a, c, by rw [e]; simp [ivs]⟩
  obtain ⟨a, c, rfl⟩ := hv
  have G := fun (W : World) (hw : Below w.heap.size w W) (i : Nat) (hi : i < L.length) => (h.below hw (Nat.le_refl _)).at3 (u := .int .i64 (L.getD i 0)) (r := i) (by simp [ivs, List.getD_eq_getElem?_getD, hi])
  have Y1 := fun (i : Nat) (hi : i < L.length) (e : L.getD i 0 < x) => filt_yes (fun u => decide (u < x)) hi (decide_eq_true e)
  have N1 := fun (i : Nat) (hi : i < L.length) (e : ¬ L.getD i 0 < x) => filt_no (fun u => decide (u < x)) hi (decide_eq_false e)
  have Y2 := fun (i : Nat) (hi : i < L.length) (e : x < L.getD i 0) => filt_yes (fun u => decide (x < u)) hi (decide_eq_true e)
  have N2 := fun (i : Nat) (hi : i < L.length) (e : ¬ x < L.getD i 0) => filt_no (fun u => decide (x < u)) hi (decide_eq_false e)
  obtain ⟨A1, hA1⟩ : ∃ A : Nat → List Int, A = fun r => (L.take r).filter fun u => decide (u < x) := ⟨_, rfl⟩
  obtain ⟨A2, hA2⟩ : ∃ A : Nat → List Int, A = fun r => (L.take r).filter fun u => decide (x < u) := ⟨_, rfl⟩
  have e1 : ∀ r, ((L.take r).filter fun u => decide (u < x)) = A1 r := fun r => by rw [hA1]
  have e2 : ∀ r, ((L.take r).filter fun u => decide (x < u)) = A2 r := fun r => by rw [hA2]
  simp only [e1] at Y1 N1
  simp only [e2] at Y2 N2
  have Z1 : A1 0 = [] := by rw [← e1]; rfl
  have Z2 : A2 0 = [] := by rw [← e2]; rfl
  have B1 : ∀ r, (A1 r).length ≤ L.length := fun r => by rw [← e1]; exact Nat.le_trans (List.length_filter_le _ _) (by rw [List.length_take]; omega)
  have B2 : ∀ r, (A2 r).length ≤ L.length := fun r => by rw [← e2]; exact Nat.le_trans (List.length_filter_le _ _) (by rw [List.length_take]; omega)
  have FIN : insL L x = A1 L.length ++ [x] ++ A2 L.length := by rw [← e1, ← e2, List.take_length]; rfl
  rw [FIN]
  obtain ⟨n, hn⟩ : ∃ n, n = L.length := ⟨_, rfl⟩
  rw [← hn] at G Y1 N1 Y2 N2 hl ⊢
  simp only [← hn] at B1 B2
  obtain ⟨U, hU⟩ : ∃ U : Nat → Int, U = fun i => L.getD i 0 := ⟨_, rfl⟩
  have hU' : ∀ i, L.getD i 0 = U i := fun i => by rw [hU]
  simp only [hU'] at G Y1 N1 Y2 N2
  have HG := Lib.hid G
  have HY1 := Lib.hid Y1
  have HN1 := Lib.hid N1
  have HY2 := Lib.hid Y2
  have HN2 := Lib.hid N2
  have HB1 := Lib.hid B1
  have HB2 := Lib.hid B2
  have HZ1 := Lib.hid Z1
  have HZ2 := Lib.hid Z2
  clear G Y1 N1 Y2 N2 B1 B2 Z1 Z2 e1 e2 hA1 hA2 FIN hU hU' hn h
  go_enter Try.func42, Try.ntmps42
  go_wp2_with fail
  go_loopg [5, 6] n (fun q ov iv wr => ∃ r : Nat, r + q = n ∧ iv = .int .i64 (r : Nat) ∧ Own wr w.heap.size 3 ov (ivs .i64 (A1 r)) ∧ Below w.heap.size w wr)
  case atStart => exact ⟨0, by omega, rfl, by rw [HZ1.out]; exact Own.nil _ _ _, Below.refl _ _⟩
  case round =>
    obtain ⟨r, hr, rfl, hown, hb⟩ := hrel
    have HR := Lib.hid hr
    have HO := Lib.hid hown
    have HB := Lib.hid hb
    by_cases hlt : r < n
    · have hlt' : decide (r < n) = true := decide_eq_true hlt
      have hltI : (r : Int) < (n : Int) := by omega
      obtain ⟨b, off, rfl, hbl, cu⟩ := HG.out wr hb r hlt
      obtain ⟨u, hu⟩ : ∃ u, u = U r := ⟨_, rfl⟩
      rw [← hu] at cu
      have HU := Lib.hid hu
      obtain ⟨p1, p2, p3, rfl⟩ := slOf hown
      clear hr hown hb hu
      by_cases hk : u < x
      · have hk' : decide (u < x) = true := decide_eq_true hk
        have HE := Lib.hid (HY1.out r hlt (by rw [← HU.out]; omega))
        go_wp2_with (at_builtin; refine wpList_push rfl (.tmp 20) (.tmp 25) 41 rfl w.heap.size 3 _ 8 intsE _ _ rfl (HO.out.alloc _) ⟨wr.heap.size, 0, none⟩ (.int .i64 u) rfl ?c1 rfl ?c2 ?c3 ?_)
        case c1 => exact cell_new rfl
        case c2 => rw [ivs_len']; have := HB1.out r; omega
        case c3 => have := HB.out.size; simp; omega
        rintro v' w1 hown1 - hb1
        have HO1 := Lib.hid hown1
        have HBB := Lib.hid ((HB.out.alloc HB.out.size (.cells #[.int .i64 u] 3)).trans hb1)
        clear hown1 hb1
        go_wp2_with fail
        go_roundg (gk - 1)
        case measure => have := HR.out; omega
        case rel =>
          refine ⟨r + 1, by have := HR.out; omega, by go_num, ?_, HBB.out⟩
          rw [HE.out, ← HU.out]
          have := HO1.out
          simpa [ivs] using this
      · have hk' : decide (u < x) = false := decide_eq_false hk
        have HE := Lib.hid (HN1.out r hlt (by rw [← HU.out]; omega))
        go_wp2_with fail
        go_roundg (gk - 1)
        case measure => have := HR.out; omega
        case rel => exact ⟨r + 1, by have := HR.out; omega, by go_num, by rw [HE.out]; exact HO.out, HB.out⟩
    · obtain rfl : r = n := by have := HR.out; omega
      have hlt' : decide (r < r) = false := decide_eq_false hlt
      obtain ⟨p1, p2, p3, rfl⟩ := slOf hown
      clear hr hown hb hlt
      go_wp2_with (at_builtin; refine wpList_push rfl (.tmp 27) (.tmp 29) 41 rfl w.heap.size 3 _ 8 intsE _ _ rfl (HO.out.alloc _) ⟨wr.heap.size, 0, none⟩ (.int .i64 x) rfl ?c1 rfl ?c2 ?c3 ?_)
      case c1 => exact cell_new rfl
      case c2 => rw [ivs_len']; have := HB1.out r; omega
      case c3 => have := HB.out.size; simp; omega
      rintro v' w1 hown1 - hb1
      have HO1 := Lib.hid hown1
      have HBB := Lib.hid ((HB.out.alloc HB.out.size (.cells #[.int .i64 x] 3)).trans hb1)
      clear hown1 hb1
      go_wp2_with fail
      obtain ⟨g0, rfl⟩ : ∃ g0, g0 = gk := ⟨_, rfl⟩
      obtain ⟨w7, rfl⟩ : ∃ w7, w7 = wr := ⟨_, rfl⟩
      go_loopg [5, 7] r (fun q ov iv wr => ∃ k : Nat, k + q = r ∧ iv = .int .i64 (k : Nat) ∧ Own wr w.heap.size 3 ov (ivs .i64 (A1 r ++ [x] ++ A2 k)) ∧ Below w.heap.size w wr)
      case atStart =>
        refine ⟨0, by omega, rfl, ?_, HBB.out⟩
        rw [HZ2.out, List.append_nil]
        have := HO1.out
        simpa [ivs] using this
      case round =>
        obtain ⟨k, hk, rfl, hown, hb⟩ := hrel
        have HK := Lib.hid hk
        have HO2 := Lib.hid hown
        have HBK := Lib.hid hb
        by_cases hlt2 : k < r
        · have hlt2' : decide (k < r) = true := decide_eq_true hlt2
          have hltI : (k : Int) < (r : Int) := by omega
          obtain ⟨b, off, rfl, hbl, cu⟩ := HG.out wr hb k hlt2
          obtain ⟨u, hu⟩ : ∃ u, u = U k := ⟨_, rfl⟩
          rw [← hu] at cu
          have HU := Lib.hid hu
          obtain ⟨q1, q2, q3, rfl⟩ := slOf hown
          clear hk hown hb hu
          by_cases hk : x < u
          · have hk' : decide (u > x) = true := decide_eq_true hk
            have hk2' : decide (x < u) = true := decide_eq_true hk
            have HE := Lib.hid (HY2.out k hlt2 (by rw [← HU.out]; omega))
            go_wp2_with (at_builtin; refine wpList_push rfl (.tmp 43) (.tmp 48) 41 rfl w.heap.size 3 _ 8 intsE _ _ rfl (HO2.out.alloc _) ⟨wr.heap.size, 0, none⟩ (.int .i64 u) rfl ?d1 rfl ?d2 ?d3 ?_)
            case d1 => exact cell_new rfl
            case d2 => rw [ivs_len']; have := HB1.out r; have := HB2.out k; simp; omega
            case d3 => have := HBK.out.size; simp; omega
            rintro v' w1 hown1 - hb1
            have HO3 := Lib.hid hown1
            have HBC := Lib.hid ((HBK.out.alloc HBK.out.size (.cells #[.int .i64 u] 3)).trans hb1)
            clear hown1 hb1
            go_wp2_with fail
            go_roundg (gk - 1)
            case measure => have := HK.out; omega
            case rel =>
              refine ⟨k + 1, by have := HK.out; omega, by go_num, ?_, HBC.out⟩
              rw [HE.out, ← HU.out]
              have := HO3.out
              simpa [ivs] using this
          · have hk' : decide (u > x) = false := decide_eq_false hk
            have hk2' : decide (x < u) = false := decide_eq_false hk
            have HE := Lib.hid (HN2.out k hlt2 (by rw [← HU.out]; omega))
            go_wp2_with fail
            go_roundg (gk - 1)
            case measure => have := HK.out; omega
            case rel => exact ⟨k + 1, by have := HK.out; omega, by go_num, by rw [HE.out]; exact HO2.out, HBK.out⟩
        · obtain rfl : k = r := by have := HK.out; omega
          have hlt2' : decide (k < k) = false := decide_eq_false hlt2
          clear hk hown hb hlt2
          go_wp2_with fail
          go_ret
          exact ⟨_, rfl, HO2.out, HBK.out⟩
end Go.Proofs.Ytlcmodbjbdfloaa
/- Walks: tree.Add, on the tree of one member. -/
namespace Go.Proofs.Ytlcmodbjbdfloaa
open Go.RowKit WalkM WireM
set_option linter.unusedVariables false
theorem one_small : smallT [oneD] = true := by decide
theorem one_ok : TreeOk [oneD] := by
  intro d hd
  rw [List.mem_singleton] at hd
  subst hd
  constructor <;> simp [oneD, noParD]
theorem one_right : rightT [oneD] = true := by decide +kernel
def zeroN : Value := .agg #[.int .u8 0, .slice none 0 0, .slice none 0 0, .slice none 0 0, .int .u8 0, .slice none 0 0, .slice none 0 0, .slice none 0 0, .slice none 0 0, .slice none 0 0]
theorem zeros_one : ∀ u ∈ (Builtin.zeroCells zeroN.cells 2).toList, u.oneCell' = true := by decide +kernel
theorem zeros_len : (Builtin.zeroCells zeroN.cells 2).toList.length = 20 := by decide +kernel
theorem zeros_kind : (Builtin.zeroCells zeroN.cells 2).toList[0]? = some (.int .u8 0) := by kernel_rfl
set_option maxRecDepth 100000 in
set_option maxHeartbeats 8000000 in
theorem add_one (v : Value) (c : Array Value) (l : LeafD) (w : World) (h : TreeR w v [oneD]) (hl : LeafC w l c) (hls : SmallL l) (hsrc : l.source < 256) (hlok : leafOkB l = true) :
    Calls Try.prog 10 #[v, .agg c] w fun e w' => ∃ g cap, e = .returned (.tuple #[.slice (some ⟨g, 0, none⟩) 3 cap, .int .i64 1, .int .u8 0]) ∧ w'.cell? ⟨g, 20, none⟩ = some (.int .u8 1) ∧ Below w.heap.size w w' := by
  have TR := fun (W : World) (hw : Below w.heap.size w W) => tright_any v [oneD] W (h.below hw (Nat.le_refl _)) one_small one_ok
  rw [one_right] at TR
  have RL := fun (W : World) (hw : Below w.heap.size w W) => rightLeafT_any l c W (hl.below hw (Nat.le_refl _)) hls hsrc
  rw [hlok] at RL
  have HD := fun (W : World) (hw : Below w.heap.size w W) => held_any l c W (hl.below hw (Nat.le_refl _)) hls
  have CP := fun (W : World) (hw : Below w.heap.size w W) => treeCopy_any v [oneD] W (h.below hw (Nat.le_refl _)) one_small
  have PA := fun (W : World) => path_any 2 1 (by omega) (by omega) W
  rw [lev_even (by omega) (by omega)] at PA
  obtain ⟨a1, c1, a2, c2, a3, c3, a4, c4, a5, c5, rfl, -⟩ := hl
  obtain ⟨l1, hl1⟩ : ∃ x, x = l.box.length := ⟨_, rfl⟩
  obtain ⟨l2, hl2⟩ : ∃ x, x = l.sign.length := ⟨_, rfl⟩
  obtain ⟨l3, hl3⟩ : ∃ x, x = l.ident.length := ⟨_, rfl⟩
  obtain ⟨l4, hl4⟩ : ∃ x, x = l.par.length := ⟨_, rfl⟩
  obtain ⟨l5, hl5⟩ : ∃ x, x = l.sig.length := ⟨_, rfl⟩
  obtain ⟨s, hsr⟩ : ∃ s, s = l.source := ⟨_, rfl⟩
  rw [← hl1, ← hl2, ← hl3, ← hl4, ← hl5, ← hsr] at RL HD ⊢
  obtain ⟨ta, n0, rfl, hc, hc2⟩ := h.sl
  have LV := fun (W : World) => tleaves_any ta 1 n0 W (by omega)
  rw [leavesN_pow (d := 0) (n := 1) (by omega) (by omega)] at LV
  obtain ⟨b, off, lb, e1, rfl, hbl, ck, -, -⟩ := h.at (i := 0) (show 0 < [oneD].length by decide)
  have hk1 : (nd [oneD] 0).kind = 1 := rfl
  rw [hk1, Nat.zero_mul, Nat.add_zero] at ck
  simp only [List.length_cons, List.length_nil, Nat.zero_add] at TR RL HD CP hc ⊢
  have HCK := Lib.hid ck
  have HTR := Lib.hid TR
  have HRL := Lib.hid RL
  have HHD := Lib.hid HD
  have HCP := Lib.hid CP
  have HPA := Lib.hid PA
  have HLV := Lib.hid LV
  clear TR RL HD CP PA LV ck hk1 h hls hsrc hlok hl1 hl2 hl3 hl4 hl5 hsr
  go_enter Try.func10, Try.ntmps10
  go_wp2_with fail
  have HBK0 := Lib.hid (Blk.new w 25 #[.slice a1 l1 c1, .slice a2 l2 c2, .slice a3 l3 c3, .int .u8 (s : Nat), .slice a4 l4 c4, .slice a5 l5 c5])
  have HB0 := Lib.hid ((Below.refl w.heap.size w).alloc (Nat.le_refl _) (.cells #[.slice a1 l1 c1, .slice a2 l2 c2, .slice a3 l3 c3, .int .u8 (s : Nat), .slice a4 l4 c4, .slice a5 l5 c5] 25))
  generalize hw0 : w.alloc (.cells #[.slice a1 l1 c1, .slice a2 l2 c2, .slice a3 l3 c3, .int .u8 (s : Nat), .slice a4 l4 c4, .slice a5 l5 c5] 25) = w0 at HBK0 HB0 ⊢
  clear hw0
  refine (HTR.out w0 HB0.out).mono ?_
  rintro e w1 ⟨rfl, hb⟩
  have HB1 := Lib.hid (HB0.out.trans (hb.mono HB0.out.size))
  have HBK1 := Lib.hid (HBK0.out.below hb HBK0.out.lt)
  clear hb
  go_wp2_with (refine wpList_load_at rfl 25 (.tmp 3) rfl w.heap.size rfl 25 #[.slice a1 l1 c1, .slice a2 l2 c2, .slice a3 l3 c3, .int .u8 (s : Nat), .slice a4 l4 c4, .slice a5 l5 c5] (0, 0) _ HBK1.out Try.underlying25 rfl (by kernel_rfl) ?_)
  refine (HRL.out w1 HB1.out).mono ?_
  rintro e w2 ⟨rfl, hb⟩
  have HB2 := Lib.hid (HB1.out.trans (hb.mono HB1.out.size))
  have HBK2 := Lib.hid (HBK1.out.below hb HBK1.out.lt)
  clear hb
  go_wp2_with fail
  refine (HLV.out w2).mono ?_
  rintro e w' ⟨rfl, rfl⟩
  have ck2 := (HB2.out.cell (p := ⟨b, off, none⟩) hbl).trans HCK.out
  go_wp2_with fail
  go_loopg [8] 1 (fun q iv wr => wr = w' ∧ ((q = 1 ∧ iv = .int .i64 0) ∨ (q = 0 ∧ iv = .int .i64 1)))
  case atStart => exact ⟨rfl, .inl ⟨rfl, rfl⟩⟩
  case round =>
    obtain ⟨rfl, ⟨rfl, rfl⟩ | ⟨rfl, rfl⟩⟩ := hrel
    · go_wp2_with fail
      go_roundg 0
      case measure => omega
      case rel => exact ⟨rfl, .inr ⟨rfl, by go_num⟩⟩
    · go_wp2_with fail
      refine (HCP.out wr HB2.out).mono ?_
      rintro e w3 ⟨v3, rfl, ⟨xs, hown, hno⟩, hb⟩
      have hown : OwnK w3 wr.heap.size 45 10 v3 1 xs := hown
      have HB3 := Lib.hid (HB2.out.trans (hb.mono HB2.out.size))
      have HBK3 := HBK2.out.below hb HBK2.out.lt
      have hlA : w.heap.size < wr.heap.size := HBK2.out.lt
      have hxl := hown.len
      obtain ⟨g, cap, rfl, hgB, hglt, hn1, hm1, -, -⟩ := hown.out (by omega)
      obtain ⟨v4, w4, hrun, hown4, hg4⟩ := run_app_zerosK 22 3 22 45 zeroN 10 208 treesE .i64 Try.underlying3 _ 1 xs hown (by omega) 2 (by omega) zeros_one (by omega) hb.size
      have hrun : (Builtin.append_ #[22, 3] 22 #[.slice (some ⟨g, 0, none⟩) 1 cap, .int .i64 2]).run Try.prog w3 = .ok v4 w4 := hrun
      have hb4 : Below w.heap.size w w4 := HB3.out.grown hg4 HB3.out.size (fun k hk => by simp only [Value.ownBlock, Option.some.injEq] at hk; omega)
      have hbk4 : Blk w4 w.heap.size 25 #[.slice a1 l1 c1, .slice a2 l2 c2, .slice a3 l3 c3, .int .u8 (s : Nat), .slice a4 l4 c4, .slice a5 l5 c5] := (hg4.block w.heap.size HBK3.lt (by simp only [Value.ownBlock, ne_eq, Option.some.injEq]; omega)).trans HBK3
      have hsz4 : w3.heap.size ≤ w4.heap.size := hg4.size
      obtain ⟨g4, cap4, rfl, hgB4, hglt4, hn4, hm4, -, -⟩ := hown4.out (by omega)
      have hcap4 : cap4 ≤ 9223372036854775807 := by unfold maxLen at hm4; exact hm4
      have HB4 := Lib.hid hb4
      have HBK4 := Lib.hid hbk4
      have HO4 := Lib.hid hown4
      have HXL := Lib.hid hxl
      clear hown hno hown4 hg4 hb4 hbk4 HBK3 hm4 hxl hb
      have HRUN := Lib.hid hrun
      clear hrun
      go_wp2_with (first | (at_builtin; refine wpList_app_run rfl (.tmp 46) (.tmp 52) 22 3 rfl _ _ rfl rfl _ _ HRUN.out ?_) | (refine wpList_load_at rfl 25 (.tmp 3) rfl w.heap.size rfl 25 #[.slice a1 l1 c1, .slice a2 l2 c2, .slice a3 l3 c3, .int .u8 (s : Nat), .slice a4 l4 c4, .slice a5 l5 c5] (0, 0) _ HBK4.out Try.underlying25 rfl (by kernel_rfl) ?_))
      refine (HHD.out w4 HB4.out).mono ?_
      rintro e w5 ⟨c', rfl, hno5, hb5⟩
      have HB5 := Lib.hid (HB4.out.trans (hb5.mono HB4.out.size))
      have hown5 := HO4.out.below hb5 (Nat.le_refl _)
      obtain ⟨hcz, hco⟩ := hno5.ones
      have hck : c'.toList[0]? = some (.int .u8 1) := by obtain ⟨x0, x1, x2, x3, x4, u0, u1, u2, e, _⟩ := hno5; rw [e]; rfl
      obtain ⟨cur, hcb, hcB, hcl, hcs⟩ := OwnK.blk hown5
      have HTH := Lib.hid (show w5.there g4 20 c'.size by rw [hcz]; exact hcb.there 20 10 (by omega))
      have HI := Lib.hid (show (Try.prog.info? 45).map (·.size) = some c'.size by rw [hcz]; exact node_info)
      have HONE := Lib.hid (show c'.all (·.oneCell') = true by rw [← Array.all_toList]; exact hco)
      have hzl := zeros_len
      have hzk := zeros_kind
      have hown9 := OwnK.put c'.toList 20 hown5
      have hb9 : Below w.heap.size w (w5.setCells g4 20 c'.toList) := HB5.out.grown (grownBy_setCells c'.toList 20) HB5.out.size (fun k hk => by simp only [Option.some.injEq] at hk; omega)
      have hcells : (w5.setCells g4 20 c'.toList).cell? ⟨g4, 10, none⟩ = some (.int .u8 0) ∧ (w5.setCells g4 20 c'.toList).cell? ⟨g4, 20, none⟩ = some (.int .u8 1) := by
        have hcz' : c'.toList.length = 10 := by simpa using hcz
        have hx := HXL.out
        have hlen : (xs ++ (Builtin.zeroCells zeroN.cells 2).toList).length = 30 := by rw [List.length_append, hzl]; omega
        constructor
        · rw [World.ownsRow.cellAt hown9 10 (by omega), putL_get _ _ _ (by omega), if_neg (by omega), List.getElem?_append_right (by omega), show 10 - xs.length = 0 by omega]
          exact hzk
        · rw [World.ownsRow.cellAt hown9 20 (by omega), putL_get _ _ _ (by omega), if_pos (by omega), Nat.sub_self]
          exact hck
      obtain ⟨w9, hw9⟩ : ∃ w9, w9 = w5.setCells g4 20 c'.toList := ⟨_, rfl⟩
      rw [← hw9] at hb9 hcells
      have HB9 := Lib.hid hb9
      have HC9 := Lib.hid hcells
      have HW9 := Lib.hid hw9
      clear hno5 hb5 hown5 hown9 hcz hco hck hcb hcs hzl hzk hb9 hcells hw9
      go_wp2_with (refine wpList_store_mid rfl 45 (.tmp 59) (.tmp 58) rfl g4 20 c' rfl rfl HTH.out HI.out HONE.out ?_; rw [← HW9.out])
      refine (HPA.out w9).mono ?_
      rintro e w6 ⟨vp, rfl, hownp, hbp⟩
      have HB6 := Lib.hid (HB9.out.trans (hbp.mono HB9.out.size))
      have hg9 : g4 < w9.heap.size := World.block_lt_of_cell? w9 ⟨g4, 20, none⟩ HC9.out.2
      have ck10 := (hbp.cell (p := ⟨g4, 10, none⟩) hg9).trans HC9.out.1
      have HC20 := Lib.hid ((hbp.cell (p := ⟨g4, 20, none⟩) hg9).trans HC9.out.2)
      have hups : nvs (ups 2 0 (1 - 0)) = [.int .i64 1] := by rfl
      rw [hups] at hownp
      obtain ⟨ap, cp, rfl⟩ : ∃ a c, vp = .slice a 1 c := by obtain ⟨a, c, e, _⟩ := hownp.rd; exact ⟨a, c, e⟩
      obtain ⟨bp, op, rfl, hbp2, cu⟩ := hownp.rd.at3 (u := .int .i64 1) (r := 0) rfl
      rw [Nat.add_zero] at cu
      clear hownp hbp hups
      go_wp2_with fail
      go_loopg [65] 1 (fun q iv wz => wz = w6 ∧ ((q = 1 ∧ iv = .int .i64 0) ∨ (q = 0 ∧ iv = .int .i64 1)))
      case atStart => exact ⟨rfl, .inl ⟨rfl, rfl⟩⟩
      case round =>
        obtain ⟨rfl, ⟨rfl, rfl⟩ | ⟨rfl, rfl⟩⟩ := hrel
        · go_wp2_with fail
          go_roundg 0
          case measure => omega
          case rel => exact ⟨rfl, .inr ⟨rfl, by go_num⟩⟩
        · go_wp2_with fail
          go_ret3
          exact ⟨_, _, rfl, HC20.out, HB6.out⟩
end Go.Proofs.Ytlcmodbjbdfloaa
/- Walks: the law's alive of layer 17. -/
namespace Go.Proofs.Ytlcmodbjbdfloaa
open Go.RowKit WalkM WireM
set_option linter.unusedVariables false
theorem none_right : rightT [] = false := by decide +kernel
theorem one_members : memL [oneD] [oneD].length = [0] := by decide +kernel
theorem one_filtered : filN [oneD] (2 * 0) 0 0 = [] := by decide +kernel
theorem one_leaf_ok : leafOkB oneD.leaf = true := by decide +kernel
theorem one_leaf_small : SmallL oneD.leaf := by refine ⟨?_, ?_, ?_, ?_, ?_⟩ <;> decide
/-- the leaf of a node, as cells -/
theorem NodeC.leaf {w : World} {d : NodeD} {c : Array Value} (h : NodeC w d c) : ∃ c6 : Array Value, LeafC w d.leaf c6 ∧ c6.size = 6 ∧ ∀ j u, c6.toList[j]? = some u → c.toList[j + 1]? = some u := by
  obtain ⟨a1, c1, a2, c2, a3, c3, a4, c4, a5, c5, b1, e1, b2, e2, b3, e3, rfl, h1, h2, h3, h4, h5, h6, h7, h8⟩ := h
  refine ⟨_, ⟨a1, c1, a2, c2, a3, c3, a4, c4, a5, c5, rfl, h1, h2, h3, h4, h5⟩, rfl, ?_⟩
  intro j u hu
  match j, hu with
  | 0, hu => exact hu
  | 1, hu => exact hu
  | 2, hu => exact hu
  | 3, hu => exact hu
  | 4, hu => exact hu
  | 5, hu => exact hu
  | j + 6, hu => simp at hu
set_option maxRecDepth 100000 in
set_option maxHeartbeats 8000000 in
theorem alive17 (w : World) : Calls Try.prog 7 #[] w fun e w' => e = .returned (.bool true) ∧ Below w.heap.size w w' := by
  have HONE := Lib.hid (one_any w)
  go_enter Try.func7, Try.ntmps7
  go_wp2_with fail
  refine (HONE.out).mono ?_
  rintro e w1 ⟨vt, rfl, ht, hb⟩
  have HB1 := Lib.hid hb
  have HT := Lib.hid (fun (W : World) (hw : Below w1.heap.size w1 W) => (show TreeR W vt [oneD] from ht.below hw (Nat.le_refl _)))
  obtain ⟨ta, n0, rfl, hc, hc2⟩ := ht.sl
  obtain ⟨b, off, cs, rfl, hbl, hnc, hra⟩ := ht.node (i := 0) (show 0 < [oneD].length by decide)
  obtain ⟨c6, hlc, hc6, hsub⟩ := hnc.leaf
  have HR6 := Lib.hid (show w1.rangeAt b (off + 1) c6.toList from by
    intro j u hu
    have := hra (j + 1) u (hsub j u hu)
    rw [show off + 0 * 10 + (j + 1) = off + 1 + j by omega] at this
    exact this)
  have HI6 := Lib.hid (show (Try.prog.info? 25).map (·.size) = some c6.toList.length by rw [Array.length_toList, hc6]; kernel_rfl)
  have HAD := Lib.hid (add_one _ c6 oneD.leaf w1 ht hlc one_leaf_small (by decide) one_leaf_ok)
  have HME := Lib.hid (fun (W : World) (hw : Below w1.heap.size w1 W) => (show Calls Try.prog 25 #[.slice (some ⟨b, off, none⟩) [oneD].length n0] W fun e w' => ∃ v', e = .returned v' ∧ Own w' W.heap.size 3 v' (ivs .i64 [0]) ∧ Below W.heap.size W w' from by
    have := tmembers_yes _ [oneD] W (HT.out W hw) one_small one_ok one_right
    rw [one_members] at this
    exact this))
  have HFI := Lib.hid (fun (W : World) (hw : Below w1.heap.size w1 W) => (show Calls Try.prog 29 #[.slice (some ⟨b, off, none⟩) [oneD].length n0, .int .i64 0] W fun e w' => ∃ v', e = .returned v' ∧ Own w' W.heap.size 3 v' (ivs .i64 []) ∧ Below W.heap.size W w' from by
    have := tfiltered_any _ [oneD] 0 0 W (HT.out W hw) one_small one_ok one_right (by omega) (by decide) (by decide)
    rw [one_filtered] at this
    exact this))
  have HRN := Lib.hid (fun (W : World) => (show Calls Try.prog 23 #[.slice none 0 0] W fun e w' => e = .returned (.bool false) ∧ Below W.heap.size W w' from by
    have := tright_any (.slice none 0 0) [] W (TreeR.nil W) (by decide) (fun d hd => by cases hd)
    rw [none_right] at this
    exact this))
  simp only [List.length_cons, List.length_nil, Nat.zero_add] at HAD HME HFI hc ⊢
  clear hb ht hnc hra hlc hsub
  go_wp2_with (refine wpList_load_mid rfl 25 (.tmp 10) rfl b (off + 1) rfl c6.toList _ HR6.out Try.underlying25 rfl HI6.out ?_)
  refine (HAD.out).mono ?_
  rintro e w2 ⟨g, cap, rfl, hc20, hb⟩
  have HB12 := Lib.hid hb
  have HB2 := Lib.hid (HB1.out.trans (hb.mono HB1.out.size))
  have hg2 : g < w2.heap.size := World.block_lt_of_cell? w2 ⟨g, 20, none⟩ hc20
  have HC20 := Lib.hid hc20
  clear hb hc20
  go_wp2_with fail
  refine (HME.out w2 HB12.out).mono ?_
  rintro e w3 ⟨vm, rfl, hown, hb⟩
  have HB13 := Lib.hid (HB12.out.trans (hb.mono HB12.out.size))
  have HB23 := Lib.hid hb
  have HB3 := Lib.hid (HB2.out.trans (hb.mono HB2.out.size))
  have HM := Lib.hid hown.rd
  obtain ⟨m1, m3, rfl⟩ : ∃ a c, vm = .slice a 1 c := by obtain ⟨a, c, e, _⟩ := hown.rd; exact ⟨a, c, e⟩
  clear hown hb
  go_wp2_with fail
  have HS := Lib.hid (sameI_any _ _ [0] [0] (w3.alloc (.cells #[.int .i64 0] 3)) ((HM.out).alloc _) (Own.full (w := w3) (B := w3.heap.size) (e := 3) (cs := #[.int .i64 0]) rfl (Nat.le_refl _) (by unfold maxLen; simp) rfl).rd)
  rw [show decide (([0] : List Int) = [0]) = true from rfl] at HS
  refine (HS.out).mono ?_
  rintro e w4 ⟨rfl, n4, rfl⟩
  have hb34 := below_drewN' ((Below.refl w3.heap.size w3).alloc (Nat.le_refl _) (.cells #[.int .i64 0] 3)) n4
  have HB14 := Lib.hid (HB13.out.trans (hb34.mono HB13.out.size))
  have HB24 := Lib.hid (HB23.out.trans (hb34.mono HB23.out.size))
  have HB4 := Lib.hid (HB3.out.trans (hb34.mono HB3.out.size))
  generalize hw4 : (w3.alloc (.cells #[.int .i64 0] 3)).drewN n4 = w4 at HB14 HB24 HB4 ⊢
  clear hw4 hb34
  go_wp2_with fail
  refine (HFI.out w4 HB14.out).mono ?_
  rintro e w5 ⟨vf, rfl, hown, hb⟩
  have HB25 := Lib.hid (HB24.out.trans (hb.mono HB24.out.size))
  have HB5 := Lib.hid (HB4.out.trans (hb.mono HB4.out.size))
  obtain ⟨f1, f3, rfl⟩ : ∃ a c, vf = .slice a 0 c := by obtain ⟨a, c, e, _⟩ := hown.rd; exact ⟨a, c, e⟩
  clear hown hb
  have ck20 := (HB25.out.cell (p := ⟨g, 20, none⟩) hg2).trans HC20.out
  go_wp2_with fail
  refine (HRN.out w5).mono ?_
  rintro e w6 ⟨rfl, hb⟩
  have HB6 := Lib.hid (HB5.out.trans (hb.mono HB5.out.size))
  clear hb
  go_wp2_with fail
  go_ret
  exact ⟨rfl, HB6.out⟩
end Go.Proofs.Ytlcmodbjbdfloaa
