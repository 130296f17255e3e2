/- Walks: hash.All, hash.Tree. -/
import Derived.Test.YtngealmhgkoaiaaGreatZHashStands31
import Derived.Laws.MakeOwn
import Derived.Test.YtngealmhgkoaiaaGreatZHashStands27
import Derived.Test.YtngealmhgkoaiaaGreatZHashStands30
import Derived.Lib.SliceRun
import Derived.Test.YtngealmhgkoaiaaGreatZHashStands07
import Derived.Test.YtngealmhgkoaiaaGreatZHashStands25
import Derived.Test.YtngealmhgkoaiaaGreatZHashStands26
import Derived.Laws.OwnMore
import Derived.Test.YtngealmhgkoaiaaGreatZHashStands28
import Derived.Test.YtngealmhgkoaiaaGreatZHashStands22
import Derived.Test.YtngealmhgkoaiaaGreatZHashStands03
import Derived.Test.YtngealmhgkoaiaaGreatZHashStands32
namespace Go.Proofs.YtngealmhgkoaiaaGreat
open Go.RowKit WalkM ShaM WireM
set_option linter.unusedVariables false
/-- a node's hash -/
def hashX (T : Nat → NodeD) (y : Nat) : List Nat := hashN T (lev y) y
theorem hashX_len (T : Nat → NodeD) (y : Nat) : (hashX T y).length = 32 := hashN_len _ _ _
theorem hashX_lt (T : Nat → NodeD) (y : Nat) : ∀ x ∈ hashX T y, x < 256 := hashN_lt _ _ _
theorem fill_any (t : List NodeD) (hs : smallT t = true) (hok : TreeOk t) (hp : placedB t = true) : ∀ k, FillP t k := by
 intro k
 induction k with
 | zero => exact fill_zero t hs hok hp
 | succ k ih => exact fill_succ t hs hok hp k ih
theorem make_rows {n : Nat} (hn : n ≤ 4000000) : ∀ w : World, (Instr.makeSlice 77 (.int .i64 (n : Nat)) (.int .i64 (n : Nat))).run Tryz.prog w = .ok (.slice (some ⟨w.heap.size, 0, none⟩) n n) (w.alloc (.cells (madeCells (Value.slice none 0 0).cells (n * 1)) 25)) := by
 intro w
 obtain ⟨i, hi, hz, hsz, hby⟩ : ∃ i, Tryz.prog.info? 25 = some i ∧ i.zero = some (.slice none 0 0) ∧ i.size = 1 ∧ i.bytes = 24 := info_parts (by kernel_rfl)
 have hr := run_make (P := Tryz.prog) w 77 25 i (.slice none 0 0) Tryz.underlying77 hi hz .i64 .i64 n n (by omega) (by omega) (by rw [hby]; omega) (by omega)
 simp only [Int.toNat_natCast, hsz] at hr
 exact hr
theorem made_rows (w : World) (n : Nat) : AllR (w.alloc (.cells (madeCells (Value.slice none 0 0).cells (n * 1)) 25)) w.heap.size n (fun _ => none) := by
 refine ⟨_, Blk.new w _ _, by simp [madeCells], fun y hy => ?_⟩
 exact ⟨_, Array.getElem?_eq_getElem (by simpa [madeCells] using hy), fun L hL => by cases hL⟩
end Go.Proofs.YtngealmhgkoaiaaGreat
/- Plain: a tree without some leaves may be filled. -/
namespace Go.Proofs.YtngealmhgkoaiaaGreat
open Go.RowKit WalkM ShaM WireM
set_option linter.unusedVariables false
theorem woD_right {t : List NodeD} {x : Nat} (hr : rightB (nd t x) = true) (ps : List Int) : rightB (woD t ps x) = true := by
 unfold woD
 split
 ·split
  ·rfl
  ·exact hr
 ·exact rightB_late hr _
theorem woD_kind {t : List NodeD} {x : Nat} (hr : (nd t x).kind ≠ otherK x) (ps : List Int) : (woD t ps x).kind ≠ otherK x := by
 unfold woD
 split
 ·rename_i h
  split
  ·rw [otherK_even h]; decide
  ·exact hr
 ·exact hr
theorem wo_small {t : List NodeD} (h : smallT t = true) (ps : List Int) : smallT (listT t.length (woD t ps)) = true := listT_small (smallT_len h) fun x _ => woD_small h ps x
theorem wo_ok {t : List NodeD} (h : TreeOk t) (ps : List Int) : TreeOk (listT t.length (woD t ps)) := listT_ok fun x _ => woD_ok h ps x
theorem wo_placed {t : List NodeD} (h : placedB t = true) (ps : List Int) : placedB (listT t.length (woD t ps)) = true := listT_placed fun x hx => ⟨woD_kind (placed_at h hx).1 ps, woD_right (placed_at h hx).2 ps⟩
theorem hashN_congr {T T' : Nat → NodeD} : ∀ (k x : Nat), x + 2 ^ k ≤ 131071 → IsLev x k → (∀ y, x + 1 ≤ y + 2 ^ k → y < x + 2 ^ k → T y = T' y) → hashN T k x = hashN T' k x
 | 0, x, _, _, h => by simp only [hashN]; rw [h x (by simp) (by simp)]
 | k + 1, x, hx, hl, h => by
  have e : 2 ^ (k + 1) = 2 * 2 ^ k := by rw [Nat.pow_succ]; omega
  have hp : 0 < 2 ^ k := Nat.pos_of_ne_zero (by simp)
  obtain ⟨_, _, h1, h2, hk⟩ := kids_lev (by omega) hl
  simp only [hashN]
  rw [h x (by omega) (by omega), hashN_congr k (x - 2 ^ k) (by omega) h1 (fun y a b => h y (by omega) (by omega)), hashN_congr k (x + 2 ^ k) (by omega) h2 (fun y a b => h y (by omega) (by omega))]
theorem wo_hash (t : List NodeD) (ps : List Int) {k x : Nat} (hl : IsLev x k) (hx : x + 2 ^ k ≤ t.length) (hn : t.length ≤ 40) : hashN (nd (listT t.length (woD t ps))) k x = hashN (woD t ps) k x :=
 hashN_congr k x (by omega) hl fun y _ h => listT_nd (by omega)
end Go.Proofs.YtngealmhgkoaiaaGreat
/- Walks: the closure of hash.without, slices.IndexFunc and slices.DeleteFunc of numbers with it. -/
namespace Go.Proofs.YtngealmhgkoaiaaGreat
open Go.RowKit WalkM WireM
set_option linter.unusedVariables false
/-- what the closure reads: the variable with the nodes, and their kinds -/
structure KW (W : World) (c g cap n : Nat) (F : Nat → NodeD) : Prop where
 var : W.cell? ⟨c, 0, none⟩ = some (.slice (some ⟨g, 0, none⟩) n cap)
 kind : ∀ m, 2 * m < n → W.cell? ⟨g, 2 * m * 10, none⟩ = some (.int .u8 ((F (2 * m)).kind : Nat))
 low : ∀ m, 2 * m < n → (F (2 * m)).kind < 256
theorem KW.grown {w w' : World} {c g cap n : Nat} {F : Nat → NodeD} {row : Option Nat} (h : KW w c g cap n F) (hg : w.grownBy w' row) (hc : some c ≠ row) (hgg : some g ≠ row) : KW w' c g cap n F :=
 ⟨hg.cell h.var hc, fun m hm => hg.cell (h.kind m hm) hgg, h.low⟩
/-- is the place's leaf blank? -/
def blankP (F : Nat → NodeD) (u : Int) : Bool := (F (2 * u.toNat)).kind == 0
set_option maxRecDepth 100000 in
set_option maxHeartbeats 1000000 in
theorem without1_any (F : Nat → NodeD) (c g cap n : Nat) (u : Int) (W : World) (h : KW W c g cap n F) (hn : n ≤ 100) (hu : ∃ m : Nat, u = (m : Int) ∧ 2 * m < n) :
  Calls Tryz.prog 263 #[.int .i64 u, .pointer (some ⟨c, 0, none⟩)] W fun e w' => e = .returned (.bool (blankP F u)) ∧ w' = W := by
 obtain ⟨m, rfl, hm⟩ := hu
 have hv := h.var
 have hk := h.kind m hm
 have e : blankP F ((m : Nat) : Int) = (((F (2 * m)).kind : Int) == 0) := by
  unfold blankP
  rw [Int.toNat_natCast]
  by_cases h0 : (F (2 * m)).kind = 0
  ·rw [h0]; rfl
  ·rw [beq_eq_false_iff_ne.2 h0, Eq.comm, beq_eq_false_iff_ne]; omega
 rw [e]
 obtain ⟨k, hk0⟩ : ∃ k, k = (F (2 * m)).kind := ⟨_, rfl⟩
 rw [← hk0] at hk ⊢
 have hw : wrap64 (2 * (m : Int)) = 2 * (m : Int) := by unfold wrap64; omega
 have hm2 : (2 * (m : Int)).toNat = 2 * m := by omega
 have hmI : 2 * (m : Int) < (n : Int) := by omega
 clear hk0 e h
 go_enter Tryz.func263, Tryz.ntmps263
 go_wp2_with fail
 go_ret
 exact ⟨rfl, rfl⟩
set_option maxRecDepth 100000 in
set_option maxHeartbeats 2000000 in
theorem idxWo_any (F : Nat → NodeD) (c g cap n : Nat) (v : Value) (L : List Int) (w : World) (h : Rd w v (ivs .i64 L)) (hk : KW w c g cap n F) (hn : n ≤ 100) (hL : ∀ u ∈ L, ∃ m : Nat, u = (m : Int) ∧ 2 * m < n) (hl : L.length ≤ 1000) :
  Calls Tryz.prog 269 #[v, .func (.func 263) #[] #[.pointer (some ⟨c, 0, none⟩)]] w fun e w' => w' = w ∧
   ((e = .returned (.int .i64 (-1)) ∧ ∀ i, i < L.length → blankP F (L.getD i 0) = false) ∨ ∃ r : Nat, r < L.length ∧ e = .returned (.int .i64 (r : Nat)) ∧ blankP F (L.getD r 0) = true ∧ ∀ i, i < r → blankP F (L.getD i 0) = false) := by
 obtain ⟨a, cp, rfl⟩ : ∃ a cp, v = .slice a L.length cp := by obtain ⟨a, cp, e, _⟩ := h; rw [ivs_len'] at e; exact ⟨a, cp, e⟩
 have AT := fun (r : Nat) (hr : r < L.length) => h.at3 (u := .int .i64 (L.getD r 0)) (r := r) (by simp [ivs, List.getD_eq_getElem?_getD, hr])
 have CC := fun (r : Nat) (hr : r < L.length) => without1_any F c g cap n (L.getD r 0) w hk hn (hL _ (by rw [List.getD_eq_getElem?_getD, List.getElem?_eq_getElem hr]; exact List.getElem_mem hr))
 obtain ⟨U, hU⟩ : ∃ U : Nat → Int, U = fun r => L.getD r 0 := ⟨_, rfl⟩
 have hU2 : ∀ r, L.getD r 0 = U r := fun r => by rw [hU]
 simp only [hU2] at AT CC ⊢
 obtain ⟨k, hkk⟩ : ∃ k, k = L.length := ⟨_, rfl⟩
 rw [← hkk] at AT CC hl ⊢
 have HAT := Lib.hid AT
 have HCC := Lib.hid CC
 obtain ⟨w0, hw0⟩ : ∃ w0, w0 = w := ⟨_, rfl⟩
 clear AT CC hkk h hk hU hU2 hL hn
 go_enter Tryz.func269, Tryz.ntmps269
 go_wp2_with fail
 go_loopg [8] k (fun q iv wr => ∃ r : Nat, r + q = k ∧ iv = .int .i64 (r : Nat) ∧ (∀ i, i < r → blankP F (U i) = false) ∧ wr = w)
 case atStart => exact ⟨0, by omega, rfl, fun i hi => by omega, rfl⟩
 case round =>
  obtain ⟨r, hr, rfl, hsm, rfl⟩ := hrel
  have HR := Lib.hid hr
  have HM := Lib.hid hsm
  clear hr hsm
  by_cases hlt : r < k
  ·have hlt' : decide (r < k) = true := decide_eq_true hlt
   obtain ⟨b, off, rfl, hbl, cu⟩ := HAT.out r hlt
   have C1 := HCC.out r hlt
   obtain ⟨u, hu⟩ : ∃ u, u = U r := ⟨_, rfl⟩
   rw [← hu] at cu C1
   obtain ⟨bb, hbb⟩ : ∃ bb, bb = blankP F u := ⟨_, rfl⟩
   rw [← hbb] at C1
   have HC1 := Lib.hid C1
   have HUB := Lib.hid (show blankP F (U r) = bb by rw [hbb, hu])
   clear C1 hbb hu
   cases bb with
   | true =>
    go_wp2_with fail
    refine (HC1.out).mono ?_
    rintro e w2 ⟨rfl, rfl⟩
    go_wp2_with fail
    go_ret
    exact ⟨rfl, .inr ⟨r, hlt, rfl, HUB.out, HM.out⟩⟩
   | false =>
    go_wp2_with fail
    refine (HC1.out).mono ?_
    rintro e w2 ⟨rfl, rfl⟩
    go_wp2_with fail
    go_roundg (gk - 1)
    case measure => have := HR.out; omega
    case rel =>
     refine ⟨r + 1, by have := HR.out; omega, by go_num, fun i hi => ?_, rfl⟩
     by_cases e : i = r
     ·rw [e]; exact HUB.out
     ·exact HM.out i (by omega)
  ·obtain rfl : r = k := by have := HR.out; omega
   have hlt' : decide (r < r) = false := decide_eq_false hlt
   go_wp2_with fail
   go_ret
   exact ⟨rfl, .inl ⟨rfl, HM.out⟩⟩
/-- what is kept in place: the first i of M are those of the first j that are kept -/
structure DelI (p : Int → Bool) (L M : List Int) (i j : Nat) : Prop where
 len : M.length = L.length
 lt : i < j
 done : M.take i = (L.take j).filter p
 rest : ∀ r, j ≤ r → M.getD r 0 = L.getD r 0
theorem getD_get {L : List Int} {i : Nat} (h : i < L.length) : L.getD i 0 = L[i] := by rw [List.getD_eq_getElem?_getD, List.getElem?_eq_getElem h]; rfl
theorem DelI.start {p : Int → Bool} {L : List Int} {r : Nat} (hr : r < L.length) (h1 : p (L.getD r 0) = false) (h2 : ∀ i, i < r → p (L.getD i 0) = true) : DelI p L L r (r + 1) := by
 refine ⟨rfl, by omega, ?_, fun _ _ => rfl⟩
 rw [filter_take_succ L p hr, h1, if_neg (by decide), List.append_nil, List.filter_eq_self.2]
 intro x hx
 obtain ⟨i, hi, rfl⟩ := List.getElem_of_mem hx
 rw [List.length_take] at hi
 have := h2 i (by omega)
 rw [getD_get (by omega)] at this
 rw [List.getElem_take]
 exact this
theorem DelI.skip {p : Int → Bool} {L M : List Int} {i j : Nat} (h : DelI p L M i j) (hj : j < L.length) (hp : p (L.getD j 0) = false) : DelI p L M i (j + 1) := by
 refine ⟨h.len, by have := h.lt; omega, ?_, fun r hr => h.rest r (by omega)⟩
 rw [filter_take_succ L p hj, hp, if_neg (by decide), List.append_nil, h.done]
theorem DelI.keep {p : Int → Bool} {L M : List Int} {i j : Nat} (h : DelI p L M i j) (hj : j < L.length) (hp : p (L.getD j 0) = true) : DelI p L (M.set i (L.getD j 0)) (i + 1) (j + 1) := by
 have hlt := h.lt
 have hlen := h.len
 refine ⟨by rw [List.length_set]; exact hlen, by omega, ?_, fun r hr => ?_⟩
 ·rw [filter_take_succ L p hj, hp, if_pos rfl, ← h.done, List.take_succ_eq_append_getElem (by rw [List.length_set]; omega), List.getElem_set_self, List.take_set_of_le (Nat.le_refl _)]
 ·rw [List.getD_eq_getElem?_getD, List.getElem?_set_ne (by omega), ← List.getD_eq_getElem?_getD]
  exact h.rest r (by omega)
theorem DelI.out {p : Int → Bool} {L M : List Int} {i j : Nat} (h : DelI p L M i j) (hj : L.length ≤ j) : M.take i = L.filter p := by
 rw [h.done, List.take_of_length_le hj]
theorem ivs_set (k : IntKind) (M : List Int) (i : Nat) (u : Int) : (ivs k M).set i (.int k u) = ivs k (M.set i u) := by simp [ivs, List.map_set]
theorem ivs_get {k : IntKind} {M : List Int} {i : Nat} (h : i < M.length) : (ivs k M)[i]? = some (.int k (M.getD i 0)) := by
 rw [getD_get h]; simp [ivs, h]
/-- the slice cut, what is behind replaced -/
theorem Own.cutPut {w : World} {B gl k cp : Nat} {e : TypeId} {xs : List Value} (h : Own w B e (.slice (some ⟨gl, 0, none⟩) k cp) xs) (vs : List Value) {i : Nat} (hi : i ≤ k) (hk : xs.length = k) :
  Own (w.setCells gl i vs) B e (.slice (some ⟨gl, 0, none⟩) i cp) (xs.take i) := by
 have h1 : OwnK w B e 1 (.slice (some ⟨gl, 0, none⟩) k cp) k xs := by unfold Own at h; rw [hk] at h; exact h
 have h2 := OwnK.put vs i h1
 rcases h2.2 with ⟨h', _⟩ | ⟨g', cap', cur, h', hb, hg, hnc, hcm, hcs, htake⟩
 ·simp at h'
 ·simp only [Value.slice.injEq, Option.some.injEq, Addr.mk.injEq, and_true, true_and] at h'
  obtain ⟨rfl, rfl⟩ := h'
  have hl : (xs.take i).length = i := by rw [List.length_take]; omega
  unfold Own
  rw [hl]
  refine ⟨by rw [hl]; omega, .inr ⟨gl, cp, cur, rfl, hb, hg, by omega, hcm, hcs, ?_⟩⟩
  have ht2 : cur.toList.take (k * 1) = putL xs i vs := htake
  rw [Nat.mul_one] at ht2 ⊢
  have : cur.toList.take i = (putL xs i vs).take i := by rw [← ht2, List.take_take]; congr 1; omega
  rw [this]
  apply List.ext_getElem?
  intro j
  rw [List.getElem?_take, List.getElem?_take]
  by_cases hj : j < i
  ·rw [if_pos hj, if_pos hj]
   have key : ∀ (vs xs : List Value) (o : Nat), j < o → (putL xs o vs)[j]? = xs[j]? := by
    intro vs
    induction vs with
    | nil => intro xs o _; rfl
    | cons v vs ih =>
     intro xs o ho
     rw [putL, ih _ _ (by omega), List.getElem?_set_ne (by omega)]
   exact key vs xs i hj
  ·rw [if_neg hj, if_neg hj]
set_option maxRecDepth 100000 in
set_option maxHeartbeats 4000000 in
theorem delWo_any (F : Nat → NodeD) (c g cap n B : Nat) (v : Value) (L : List Int) (w : World) (h : Own w B 3 v (ivs .i64 L)) (hk : KW w c g cap n F) (hn : n ≤ 100) (hL : ∀ u ∈ L, ∃ m : Nat, u = (m : Int) ∧ 2 * m < n) (hl : L.length ≤ 1000) (hc : some c ≠ v.ownBlock) (hg : some g ≠ v.ownBlock) :
  Calls Tryz.prog 262 #[v, .func (.func 263) #[] #[.pointer (some ⟨c, 0, none⟩)]] w fun e w' => ∃ v', e = .returned v' ∧ Own w' B 3 v' (ivs .i64 (L.filter fun u => !blankP F u)) ∧ v'.ownBlock = v.ownBlock ∧ w.grownBy w' v.ownBlock := by
 have IX := idxWo_any F c g cap n v L w h.rd hk hn hL hl
 obtain ⟨a, n0, cp, rfl⟩ := slOf h
 have hlen : n0 = L.length := by obtain ⟨a', cp', e, _⟩ := h.rd; rw [ivs_len'] at e; simp only [Value.slice.injEq] at e; exact e.2.1
 subst hlen
 have HIX := Lib.hid IX
 by_cases hit : ∀ i, i < L.length → blankP F (L.getD i 0) = false
 ·have hf : (L.filter fun u => !blankP F u) = L := List.filter_eq_self.2 fun x hx => by
   obtain ⟨i, hi, rfl⟩ := List.getElem_of_mem hx
   have := hit i hi
   rw [getD_get hi] at this
   rw [this]; rfl
  rw [hf]
  have HIT := Lib.hid hit
  have HO := Lib.hid h
  clear IX hf hit h hk hL hc hg
  obtain ⟨k, hkk⟩ : ∃ k, k = L.length := ⟨_, rfl⟩
  rw [← hkk] at HIX HO HIT ⊢
  clear hkk
  go_enter Tryz.func262, Tryz.ntmps262
  go_wp2_with fail
  refine (HIX.out).mono ?_
  rintro e w' ⟨rfl, ⟨rfl, _⟩ | ⟨r, hr, _, hb, _⟩⟩
  ·have hm1 : ((-1 : Int) == -1) = true := by decide
   go_wp2_with fail
   go_ret
   exact ⟨_, rfl, HO.out, rfl, World.grownBy.refl _ _⟩
  ·exfalso
   have := HIT.out r hr
   rw [hb] at this; cases this
 ·have hne : L ≠ [] := by rintro rfl; exact hit fun i hi => by simp at hi
  obtain ⟨gl, cp', cur, he, hBg, hgl, hbl, hk1, hk2, -⟩ := h.out (show ivs .i64 L ≠ [] by simpa [ivs] using hne)
  rw [ivs_len'] at he hk1
  simp only [Value.slice.injEq] at he
  obtain ⟨rfl, -, rfl⟩ := he
  have DC := fun (W : World) (hW : w.grownBy W (some gl)) (j : Nat) (hj : j < L.length) => without1_any F c g cap n (L.getD j 0) W (hk.grown hW hc hg) hn (hL _ (by rw [getD_get hj]; exact List.getElem_mem hj))
  have OW := fun (W : World) (M : List Int) (hM : M.length = L.length) (ho : Own W B 3 (.slice (some ⟨gl, 0, none⟩) L.length cp) (ivs .i64 M)) => (show W.ownsRow B 3 1 (.slice (some ⟨gl, 0, none⟩) L.length cp) L.length (ivs .i64 M) by unfold Own at ho; rw [ivs_len', hM] at ho; exact ho)
  have CE := fun (W : World) (M : List Int) (hM : M.length = L.length) (ho : Own W B 3 (.slice (some ⟨gl, 0, none⟩) L.length cp) (ivs .i64 M)) (i : Nat) (hi : i < L.length) => (show W.cell? ⟨gl, i, none⟩ = some (.int .i64 (M.getD i 0)) ∧ W.frozen? ⟨gl, i, none⟩ = false from ⟨by rw [(OW W M hM ho).cellAt i (by omega)]; exact ivs_get (by omega), (OW W M hM ho).frozenAt i⟩)
  have ST := fun (W : World) (M : List Int) (hM : M.length = L.length) (ho : Own W B 3 (.slice (some ⟨gl, 0, none⟩) L.length cp) (ivs .i64 M)) (i : Nat) (u : Int) => (show Own (W.setCell ⟨gl, i, none⟩ (.int .i64 u)) B 3 (.slice (some ⟨gl, 0, none⟩) L.length cp) (ivs .i64 (M.set i u)) ∧ W.grownBy (W.setCell ⟨gl, i, none⟩ (.int .i64 u)) (some gl) from by
   have := (OW W M hM ho).stored i (.int .i64 u)
   refine ⟨?_, this.2⟩
   unfold Own
   rw [ivs_len', List.length_set, hM, ← ivs_set]
   exact this.1)
  have CU := fun (W : World) (M : List Int) (i : Nat) (hd : DelI (fun u => !blankP F u) L M i L.length) (ho : Own W B 3 (.slice (some ⟨gl, 0, none⟩) L.length cp) (ivs .i64 M)) => (show Own (W.setCells gl i (List.replicate (L.length - i) (.int .i64 0))) B 3 (.slice (some ⟨gl, 0, none⟩) i cp) (ivs .i64 (L.filter fun u => !blankP F u)) ∧ W.grownBy (W.setCells gl i (List.replicate (L.length - i) (.int .i64 0))) (some gl) from by
   refine ⟨?_, grownBy_setCells _ _⟩
   have := ho.cutPut (List.replicate (L.length - i) (.int .i64 0)) (i := i) (Nat.le_of_lt hd.lt) (by rw [ivs_len']; exact hd.len)
   rw [show (ivs .i64 M).take i = ivs .i64 (M.take i) by simp [ivs], hd.out (Nat.le_refl _)] at this
   exact this)
  have CL := fun (W : World) (M : List Int) (hM : M.length = L.length) (ho : Own W B 3 (.slice (some ⟨gl, 0, none⟩) L.length cp) (ivs .i64 M)) (i : Nat) (hi : i < L.length) (ty : TypeId) => Lib.run_clear_slice (P := Tryz.prog) W 50 3 ty (.int .i64 0) Tryz.underlying50 (fun _ => rfl) rfl rfl gl i (L.length - i) (cp - i) (by omega) (fun j hj => by rw [(CE W M hM ho (i + j) (by omega)).1]; rfl) (fun j hj => (CE W M hM ho (i + j) (by omega)).2)
  have START := fun (r : Nat) (hr : r < L.length) (h1 : blankP F (L.getD r 0) = true) (h2 : ∀ i, i < r → blankP F (L.getD i 0) = false) => DelI.start (p := fun u => !blankP F u) hr (show (!blankP F (L.getD r 0)) = false by rw [h1]; rfl) (fun i hi => show (!blankP F (L.getD i 0)) = true by rw [h2 i hi]; rfl)
  have KEEP := fun (M : List Int) (i j : Nat) (hd : DelI (fun u => !blankP F u) L M i j) (hj : j < L.length) (hp : blankP F (L.getD j 0) = false) => hd.keep hj (show (!blankP F (L.getD j 0)) = true by rw [hp]; rfl)
  have SKIP := fun (M : List Int) (i j : Nat) (hd : DelI (fun u => !blankP F u) L M i j) (hj : j < L.length) (hp : blankP F (L.getD j 0) = true) => hd.skip hj (show (!blankP F (L.getD j 0)) = false by rw [hp]; rfl)
  have DL := fun (M : List Int) (i j : Nat) (hd : DelI (fun u => !blankP F u) L M i j) => (show M.length = L.length ∧ i < j ∧ ∀ r, j ≤ r → M.getD r 0 = L.getD r 0 from ⟨hd.len, hd.lt, hd.rest⟩)
  obtain ⟨DD, hDD⟩ : ∃ DD : List Int → Nat → Nat → Prop, DD = fun M i j => DelI (fun u => !blankP F u) L M i j := ⟨_, rfl⟩
  have hDD2 : ∀ M i j, DelI (fun u => !blankP F u) L M i j = DD M i j := fun M i j => by rw [hDD]
  simp only [hDD2] at CU START KEEP SKIP DL
  obtain ⟨RSL, hRSL⟩ : ∃ RSL, RSL = L.filter fun u => !blankP F u := ⟨_, rfl⟩
  rw [← hRSL] at CU ⊢
  obtain ⟨U, hU⟩ : ∃ U : Nat → Int, U = fun r => L.getD r 0 := ⟨_, rfl⟩
  have hU2 : ∀ r, L.getD r 0 = U r := fun r => by rw [hU]
  simp only [hU2] at DC START KEEP SKIP DL HIX hit
  have HOW := Lib.hid h
  obtain ⟨k, hkk⟩ : ∃ k, k = L.length := ⟨_, rfl⟩
  rw [← hkk] at DC CE ST CU CL START KEEP SKIP DL HIX hit hl hk1 HOW ⊢
  have HDC := Lib.hid DC
  have HCE := Lib.hid CE
  have HST := Lib.hid ST
  have HCU := Lib.hid CU
  have HCL := Lib.hid CL
  have HSTART := Lib.hid START
  have HKEEP := Lib.hid KEEP
  have HSKIP := Lib.hid SKIP
  have HDL := Lib.hid DL
  have HIT := Lib.hid hit
  have hcp : cp ≤ 9223372036854775807 := by unfold maxLen at hk2; exact hk2
  clear DC CE ST CU CL START KEEP SKIP DL OW hDD hDD2 hRSL hU hU2 hkk hit h hk IX hL hc hg hbl hne hBg hgl hk2 hn
  go_enter Tryz.func262, Tryz.ntmps262
  go_wp2_with fail
  refine (HIX.out).mono ?_
  rintro e w' ⟨rfl, ⟨rfl, hno⟩ | ⟨r, hr, rfl, hb1, hb2⟩⟩
  ·exact absurd hno HIT.out
  have HS := Lib.hid (HSTART.out r hr hb1 hb2)
  have hne1 : ((r : Int) == -1) = false := beq_eq_false_iff_ne.2 (by omega)
  clear hb1 hb2
  go_wp2_with fail
  go_loopg [5, 6, 7] k (fun gg s5 s6 _ wr => ∃ (i j : Nat) (M : List Int), s5 = .int .i64 (i : Nat) ∧ s6 = .int .i64 (j : Nat) ∧ j ≤ k ∧ k - j ≤ gg ∧ Own wr B 3 (.slice (some ⟨gl, 0, none⟩) k cp) (ivs .i64 M) ∧ DD M i j ∧ w'.grownBy wr (some gl))
  case atStart => exact ⟨r, r + 1, L, rfl, by go_num, by omega, by omega, HOW.out, HS.out, World.grownBy.refl _ _⟩
  case round =>
   obtain ⟨i, j, M, rfl, rfl, hjk, hgg, hown, hd, hgb⟩ := hrel
   obtain ⟨hM, hij, hre⟩ := HDL.out M i j hd
   have HG := Lib.hid hgg
   have HO := Lib.hid hown
   have HD := Lib.hid hd
   have HGB := Lib.hid hgb
   by_cases hlt : j < k
   ·have hlt' : decide (j < k) = true := decide_eq_true hlt
    have hltI : (j : Int) < (k : Int) := by omega
    have hik : i < k := by omega
    have hikI : (i : Int) < (k : Int) := by omega
    have cj := (HCE.out wr M hM hown j hlt).1
    rw [hre j (Nat.le_refl _)] at cj
    obtain ⟨ci, fi⟩ := HCE.out wr M hM hown i hik
    have C1 := HDC.out wr hgb j hlt
    obtain ⟨old, hold⟩ : ∃ old, old = M.getD i 0 := ⟨_, rfl⟩
    rw [← hold] at ci
    obtain ⟨u, hu⟩ : ∃ u, u = U j := ⟨_, rfl⟩
    rw [← hu] at cj C1
    obtain ⟨bb, hbb⟩ : ∃ bb, bb = blankP F u := ⟨_, rfl⟩
    rw [← hbb] at C1
    have HC1 := Lib.hid C1
    have HUB := Lib.hid (show blankP F (U j) = bb by rw [hbb, hu])
    have HU := Lib.hid hu
    have HM := Lib.hid hM
    clear C1 hbb hold hu hd hown hgb hre hgg hM
    cases bb with
    | true =>
     go_wp2_with fail
     refine (HC1.out).mono ?_
     rintro e w2 ⟨rfl, rfl⟩
     go_wp2_with fail
     go_roundg (k - (j + 1))
     case measure => have := HG.out; omega
     case rel => exact ⟨i, j + 1, M, rfl, by go_num, by omega, Nat.le_refl _, HO.out, HSKIP.out M i j HD.out hlt HUB.out, HGB.out⟩
    | false =>
     go_wp2_with fail
     refine (HC1.out).mono ?_
     rintro e w2 ⟨rfl, rfl⟩
     go_wp2_with fail
     go_roundg (k - (j + 1))
     case measure => have := HG.out; omega
     case rel =>
      obtain ⟨s1, s2⟩ := HST.out _ M HM.out HO.out i u
      have hkp := HKEEP.out M i j HD.out hlt HUB.out
      rw [← HU.out] at hkp
      exact ⟨i + 1, j + 1, M.set i u, by go_num, by go_num, by omega, Nat.le_refl _, s1, hkp, HGB.out.trans s2⟩
   ·obtain rfl : j = k := by omega
    have hlt' : decide (j < j) = false := decide_eq_false hlt
    have hcl := fun ty => HCL.out wr M hM hown i hij ty
    have hijI : (i : Int) ≤ (j : Int) := by omega
    have HCC := Lib.hid (HCU.out wr M i hd hown)
    clear hown hd hgb hre hgg hM
    go_wp2_with fail
    go_ret
    exact ⟨_, rfl, HCC.out.1, rfl, HGB.out.trans HCC.out.2⟩
end Go.Proofs.YtngealmhgkoaiaaGreat
/- Plain: a tree in new memory of which one node's late list is being changed. -/
namespace Go.Proofs.YtngealmhgkoaiaaGreat
open Go.RowKit WalkM WireM
set_option linter.unusedVariables false
theorem apart2.symm {u v : Value} (h : apart2 u v) : apart2 v u := fun g hv hu => h g hu hv
/-- the cells of a node, its late list aside -/
def NodeH (w : World) (B : Nat) (d : NodeD) (c : Array Value) (V : Value) : Prop :=
 ∃ x0 x1 x2 x3 x4 u0 u1, c = #[.int .u8 (d.kind : Nat), x0, x1, x2, .int .u8 (d.leaf.source : Nat), x3, x4, u0, u1, V] ∧
  Own w B 5 x0 (bvs d.leaf.box) ∧ Own w B 5 x1 (bvs d.leaf.sign) ∧ Own w B 5 x2 (bvs d.leaf.ident) ∧ Own w B 5 x3 (bvs d.leaf.par) ∧ Own w B 5 x4 (bvs d.leaf.sig) ∧
  Own w B 5 u0 (bvs d.par.box) ∧ Own w B 5 u1 (bvs d.par.hash)
theorem NodeO.h {w : World} {B : Nat} {d : NodeD} {c : Array Value} (h : NodeO w B d c) : NodeH w B d c (c.toList.getD 9 undef) := by
 obtain ⟨x0, x1, x2, x3, x4, u0, u1, u2, rfl, h0, h1, h2, h3, h4, h5, h6, h7⟩ := h
 exact ⟨x0, x1, x2, x3, x4, u0, u1, rfl, h0, h1, h2, h3, h4, h5, h6⟩
theorem NodeH.o {w : World} {B : Nat} {d : NodeD} {c : Array Value} {V : Value} (h : NodeH w B d c V) {L : List Int} {V' : Value} (hv : Own w B 3 V' (ivs .i64 L)) : NodeO w B ⟨d.kind, d.leaf, ⟨d.par.box, d.par.hash, L⟩⟩ (c.setIfInBounds 9 V') := by
 obtain ⟨x0, x1, x2, x3, x4, u0, u1, rfl, h0, h1, h2, h3, h4, h5, h6⟩ := h
 exact ⟨x0, x1, x2, x3, x4, u0, u1, V', rfl, h0, h1, h2, h3, h4, h5, h6, hv⟩
/-- what lies in the cells lies elsewhere than V; the late list aside -/
def apartC (c : Array Value) (V : Value) : Prop := ∀ i u, c[i]? = some u → i ≠ 9 → apart2 u V
theorem apart_int {k : IntKind} {n : Int} {V : Value} : apart2 (.int k n) V := fun g hg => by simp [Value.ownBlock] at hg
theorem NodeO.apartC {w : World} {B B' : Nat} {d : NodeD} {c : Array Value} {V : Value} {ys : List Value} (h : NodeO w B d c) (hv : Own w B' 3 V ys) : apartC c V := by
 obtain ⟨x0, x1, x2, x3, x4, u0, u1, u2, rfl, h0, h1, h2, h3, h4, h5, h6, h7⟩ := h
 have key : ∀ {u : Value} {zs : List Value}, Own w B 5 u zs → apart2 u V := fun hu' => (show OwnK w B' 3 1 V ys.length ys from hv).ne hu' (by decide)
 intro i u hu hi
 match i, hu, hi with
 | 0, hu, _ => simp at hu; subst hu; exact apart_int
 | 1, hu, _ => simp at hu; subst hu; exact key h0
 | 2, hu, _ => simp at hu; subst hu; exact key h1
 | 3, hu, _ => simp at hu; subst hu; exact key h2
 | 4, hu, _ => simp at hu; subst hu; exact apart_int
 | 5, hu, _ => simp at hu; subst hu; exact key h3
 | 6, hu, _ => simp at hu; subst hu; exact key h4
 | 7, hu, _ => simp at hu; subst hu; exact key h5
 | 8, hu, _ => simp at hu; subst hu; exact key h6
 | 9, _, hi => exact absurd rfl hi
 | i + 10, hu, _ => simp at hu
theorem NodeO.grownV {w w' : World} {B : Nat} {d : NodeD} {c : Array Value} {V : Value} (h : NodeO w B d c) (hg : w.grownBy w' V.ownBlock) (ha : Go.Proofs.YtngealmhgkoaiaaGreat.apartC c V) (hl : apart2 (c.toList.getD 9 undef) V) : NodeO w' B d c := by
 obtain ⟨x0, x1, x2, x3, x4, u0, u1, u2, rfl, h0, h1, h2, h3, h4, h5, h6, h7⟩ := h
 exact ⟨x0, x1, x2, x3, x4, u0, u1, u2, rfl, h0.grown hg (ha 1 x0 rfl (by decide)), h1.grown hg (ha 2 x1 rfl (by decide)), h2.grown hg (ha 3 x2 rfl (by decide)), h3.grown hg (ha 5 x3 rfl (by decide)), h4.grown hg (ha 6 x4 rfl (by decide)), h5.grown hg (ha 7 u0 rfl (by decide)), h6.grown hg (ha 8 u1 rfl (by decide)), h7.grown hg hl⟩
theorem NodeH.grownV {w w' : World} {B : Nat} {d : NodeD} {c : Array Value} {V : Value} (h : NodeH w B d c V) (hg : w.grownBy w' V.ownBlock) (ha : Go.Proofs.YtngealmhgkoaiaaGreat.apartC c V) : NodeH w' B d c V := by
 obtain ⟨x0, x1, x2, x3, x4, u0, u1, rfl, h0, h1, h2, h3, h4, h5, h6⟩ := h
 exact ⟨x0, x1, x2, x3, x4, u0, u1, rfl, h0.grown hg (ha 1 x0 rfl (by decide)), h1.grown hg (ha 2 x1 rfl (by decide)), h2.grown hg (ha 3 x2 rfl (by decide)), h3.grown hg (ha 5 x3 rfl (by decide)), h4.grown hg (ha 6 x4 rfl (by decide)), h5.grown hg (ha 7 u0 rfl (by decide)), h6.grown hg (ha 8 u1 rfl (by decide))⟩
/-- a copy of a tree, in new memory, and the variable that holds it -/
structure WJ (w W : World) (c g cap n : Nat) (F : Nat → NodeD) : Prop where
 var : Blk W c 22 #[.slice (some ⟨g, 0, none⟩) n cap]
 tree : TreeF W w.heap.size (.slice (some ⟨g, 0, none⟩) n cap) n F
 low : Below w.heap.size w W
theorem WJ.congr {w W : World} {c g cap n : Nat} {F G : Nat → NodeD} (h : WJ w W c g cap n F) (e : ∀ x, x < n → G x = F x) : WJ w W c g cap n G := ⟨h.var, h.tree.congr e, h.low⟩
theorem WJ.cell {w W : World} {c g cap n : Nat} {F : Nat → NodeD} (h : WJ w W c g cap n F) : W.cell? ⟨c, 0, none⟩ = some (.slice (some ⟨g, 0, none⟩) n cap) := by rw [h.var.cell]; rfl
theorem WJ.blkG {w W : World} {c g cap n : Nat} {F : Nat → NodeD} (h : WJ w W c g cap n F) : ∃ cur, Blk W g 54 cur ∧ w.heap.size ≤ g ∧ n * 10 ≤ cur.size := by
 obtain ⟨xs, h1, h2, h3, h4⟩ := h.tree
 obtain ⟨cur, k1, k2, k3, k4⟩ := h1.blk
 exact ⟨cur, k1, k2, k4⟩
theorem WJ.ne {w W : World} {c g cap n : Nat} {F : Nat → NodeD} (h : WJ w W c g cap n F) : c ≠ g := by
 intro e
 obtain ⟨cur, k, _⟩ := h.blkG
 have := h.var
 unfold Blk at this k
 rw [e, k] at this
 simp at this
theorem WJ.there {w W : World} {c g cap n : Nat} {F : Nat → NodeD} (h : WJ w W c g cap n F) {x : Nat} (hx : x < n) : W.there g (x * 10) 10 := by
 obtain ⟨cur, k1, k2, k3⟩ := h.blkG
 exact k1.there _ _ (by omega)
theorem WJ.blank {w W : World} {c g cap n : Nat} {F : Nat → NodeD} (h : WJ w W c g cap n F) {x : Nat} (hx : x < n) :
  WJ w (W.setCells g (x * 10) [.int .u8 0, .slice none 0 0, .slice none 0 0, .slice none 0 0, .int .u8 0, .slice none 0 0, .slice none 0 0, .slice none 0 0, .slice none 0 0, .slice none 0 0]) c g cap n (fun y => if y = x then noNodeD else F y) := by
 obtain ⟨cur, k1, k2, k3⟩ := h.blkG
 have hg := grownBy_setCells (w := W) (g := g) [.int .u8 0, .slice none 0 0, .slice none 0 0, .slice none 0 0, .int .u8 0, .slice none 0 0, .slice none 0 0, .slice none 0 0, .slice none 0 0, .slice none 0 0] (x * 10)
 refine ⟨?_, ?_, h.low.grown hg h.low.size (fun k hk => by simp only [Option.some.injEq] at hk; omega)⟩
 ·exact (hg.block c h.var.lt (fun e => h.ne (by simpa using e))).trans h.var
 ·have := h.tree.blank hx
  rw [Nat.mul_comm 10 x] at this
  exact this
/-- one node's late list may be changed meanwhile -/
structure HoleI (w W : World) (c g cap n : Nat) (F : Nat → NodeD) (xs : List Value) (x : Nat) (V : Value) : Prop where
 own : OwnK W w.heap.size 54 10 (.slice (some ⟨g, 0, none⟩) n cap) n xs
 nodes : ∀ j, j < n → j ≠ x → NodeO W w.heap.size (F j) (cellsAt xs j).toArray
 hole : NodeH W w.heap.size (F x) (cellsAt xs x).toArray V
 kw : KW W c g cap n F
 var : Blk W c 22 #[.slice (some ⟨g, 0, none⟩) n cap]
 low : Below w.heap.size w W
structure HoleA (B c g n : Nat) (xs : List Value) (x : Nat) (V : Value) : Prop where
 len : xs.length = 10 * n
 hx : x < n
 cg : c ≠ g
 ap : ∀ j, j < n → Go.Proofs.YtngealmhgkoaiaaGreat.apartC (cellsAt xs j).toArray V
 late : ∀ j, j < n → j ≠ x → apart2 (lateV xs j) V
 pair : ∀ j k, j < k → k < n → apart2 (lateV xs j) (lateV xs k)
 vc : some c ≠ V.ownBlock
 vg : some g ≠ V.ownBlock
 vB : ∀ k, V.ownBlock = some k → B ≤ k
 lv : xs[x * 10 + 9]? = some V
theorem HoleI.grown {w W W' : World} {c g cap n : Nat} {F : Nat → NodeD} {xs : List Value} {x : Nat} {V : Value} (h : HoleI w W c g cap n F xs x V) (a : HoleA w.heap.size c g n xs x V) (hg : W.grownBy W' V.ownBlock) : HoleI w W' c g cap n F xs x V :=
 ⟨World.ownsRow.kept h.own hg (.inr (fun e => a.vg e)), fun j hj hne => (h.nodes j hj hne).grownV hg (a.ap j hj) (a.late j hj hne), h.hole.grownV hg (a.ap x a.hx), h.kw.grown hg a.vc a.vg, (hg.block c h.var.lt a.vc).trans h.var, h.low.grown hg h.low.size a.vB⟩
theorem HoleI.late {w W : World} {c g cap n : Nat} {F : Nat → NodeD} {xs : List Value} {x : Nat} {V : Value} (h : HoleI w W c g cap n F xs x V) (a : HoleA w.heap.size c g n xs x V) : W.cell? ⟨g, x * 10 + 9, none⟩ = some V ∧ W.frozen? ⟨g, x * 10 + 9, none⟩ = false := by
 have hx := a.hx
 refine ⟨?_, World.ownsRow.frozenAt h.own _⟩
 rw [World.ownsRow.cellAt h.own _ (by omega)]
 exact a.lv
theorem HoleI.put {w W : World} {c g cap n : Nat} {F : Nat → NodeD} {xs : List Value} {x : Nat} {V V' : Value} {L : List Int} (h : HoleI w W c g cap n F xs x V) (a : HoleA w.heap.size c g n xs x V) (ho : Own W w.heap.size 3 V' (ivs .i64 L)) (hob : V'.ownBlock = V.ownBlock) :
  WJ w (W.setCell ⟨g, x * 10 + 9, none⟩ V') c g cap n (fun y => if y = x then ⟨(F x).kind, (F x).leaf, ⟨(F x).par.box, (F x).par.hash, L⟩⟩ else F y) := by
 have hs := World.ownsRow.stored h.own (x * 10 + 9) V'
 obtain ⟨cur, hb, hBg, _⟩ := h.own.blk
 have hcs := fun j => cellsAt_set a.len a.hx 9 (by omega) V' j
 rw [Nat.mul_comm 10 x] at hcs
 have ap1 : ∀ j, j < n → j ≠ x → apart2 (lateV xs j) V' := fun j hj hne g' hg' => by rw [hob]; exact a.late j hj hne g' hg'
 have hl : (cellsAt xs x).length = 10 := by
  have := a.len
  have := a.hx
  unfold cellsAt; rw [List.length_take, List.length_drop]; omega
 refine ⟨(hs.2.block c h.var.lt (fun e => a.cg (by simpa using e))).trans h.var, ⟨xs.set (x * 10 + 9) V', hs.1, by rw [List.length_set]; exact a.len, fun j hj => ?_, fun j k hjk hk => ?_⟩, h.low.grown hs.2 h.low.size (fun k hk => by simp only [Option.some.injEq] at hk; omega)⟩
 ·rw [hcs j]
  by_cases e : j = x
  ·subst e
   simp only [if_true]
   rw [show ((cellsAt xs j).set 9 V').toArray = (cellsAt xs j).toArray.setIfInBounds 9 V' by simp]
   exact (h.hole.o ho).grownA hb hs.2
  ·simp only [e, if_false]
   exact (h.nodes j hj e).grownA hb hs.2
 ·have e9 : ((cellsAt xs x).set 9 V').getD 9 undef = V' := by rw [List.getD_eq_getElem?_getD, List.getElem?_set_self (by omega)]; rfl
  unfold lateV
  rw [hcs j, hcs k]
  by_cases e1 : j = x
  ·subst e1
   rw [if_pos rfl, if_neg (by omega), e9]
   exact (ap1 k hk (by omega)).symm
  ·rw [if_neg e1]
   by_cases e2 : k = x
   ·subst e2
    rw [if_pos rfl, e9]
    exact ap1 j (by omega) e1
   ·rw [if_neg e2]; exact a.pair j k hjk hk
theorem WJ.kw {w W : World} {c g cap n : Nat} {F : Nat → NodeD} (h : WJ w W c g cap n F) (hk : ∀ x, x < n → (F x).kind < 256) : KW W c g cap n F := by
 refine ⟨h.cell, fun m hm => ?_, fun m hm => hk _ hm⟩
 obtain ⟨cs, k1, k2, k3, _⟩ := h.tree.at hm
 have := k3 0 _ k2.c.kind
 rw [Nat.add_zero, Nat.mul_comm 10] at this
 exact this
/-- the late list of a node may be changed -/
theorem WJ.hole {w W : World} {c g cap n : Nat} {F : Nat → NodeD} (h : WJ w W c g cap n F) (hk : ∀ x, x < n → (F x).kind < 256) {x : Nat} (hx : x < n) :
  ∃ xs V, HoleI w W c g cap n F xs x V ∧ HoleA w.heap.size c g n xs x V ∧ Own W w.heap.size 3 V (ivs .i64 (F x).par.late) := by
 have hkw := h.kw hk
 have hne := h.ne
 have hvar := h.var
 obtain ⟨curg, hbg, _, _⟩ := h.blkG
 obtain ⟨xs, h1, h2, h3, h4⟩ := h.tree
 have hnx := h3 x hx
 have hv := hnx.late
 have hl : (cellsAt xs x).length = 10 := by unfold cellsAt; rw [List.length_take, List.length_drop]; omega
 refine ⟨xs, lateV xs x, ⟨h1, fun j hj _ => h3 j hj, hnx.h, hkw, h.var, h.low⟩, ⟨h2, hx, hne, fun j hj => (h3 j hj).apartC hv, fun j hj e => ?_, h4, ?_, ?_, fun k hk => (hv.blockLt hk).2, ?_⟩, hv⟩
 ·rcases Nat.lt_or_ge j x with hlt | hge
  ·exact h4 j x hlt hx
  ·exact (h4 x j (by omega) hj).symm
 ·intro e
  exact hv.ne_blk hvar (by decide) e.symm
 ·intro e
  exact hv.ne_blk hbg (by decide) e.symm
 ·have e : (cellsAt xs x)[9]? = some (lateV xs x) := by
   unfold lateV
   rw [List.getD_eq_getElem?_getD, List.getElem?_eq_getElem (by omega)]; rfl
  have := cellsAt_get h2 hx e
  rw [Nat.mul_comm] at this
  exact this
end Go.Proofs.YtngealmhgkoaiaaGreat
/- Walks: hash.without. -/
namespace Go.Proofs.YtngealmhgkoaiaaGreat
open Go.RowKit WalkM WireM
set_option linter.unusedVariables false
/-- the cells of a blank node -/
def blankC : Array Value := #[.int .u8 0, .slice none 0 0, .slice none 0 0, .slice none 0 0, .int .u8 0, .slice none 0 0, .slice none 0 0, .slice none 0 0, .slice none 0 0, .slice none 0 0]
theorem blankC_size : blankC.size = 10 := rfl
theorem blankC_one : blankC.all (·.oneCell') = true := by rw [← Array.all_toList]; rfl
theorem HoleI.drew {w W : World} {c g cap n : Nat} {F : Nat → NodeD} {xs : List Value} {x : Nat} {V : Value} (h : HoleI w W c g cap n F xs x V) : HoleI w W.drew c g cap n F xs x V :=
 ⟨h.own, h.nodes, h.hole, ⟨h.kw.var, h.kw.kind, h.kw.low⟩, h.var, h.low.trans ⟨rfl, rfl, rfl, Nat.le_refl _, fun _ _ => rfl⟩⟩
/-- blank where some leaves are -/
def blkD (t : List NodeD) (ps : List Int) (x : Nat) : NodeD := if x % 2 = 0 ∧ ((x / 2 : Nat) : Int) ∈ ps then noNodeD else nd t x
theorem blkD_nil (t : List NodeD) (x : Nat) : blkD t [] x = nd t x := by unfold blkD; rw [if_neg (by simp)]
theorem blkD_in (t : List NodeD) (ps : List Int) (m : Nat) (y : Nat) : blkD t (ps ++ [(m : Int)]) y = if y = 2 * m then noNodeD else blkD t ps y := by
 unfold blkD
 by_cases h : y = 2 * m
 ·subst h
  rw [if_pos rfl, if_pos ⟨by omega, by rw [show 2 * m / 2 = m by omega]; simp⟩]
 ·rw [if_neg h]
  by_cases h2 : y % 2 = 0 ∧ ((y / 2 : Nat) : Int) ∈ ps
  ·rw [if_pos h2, if_pos ⟨h2.1, List.mem_append.2 (.inl h2.2)⟩]
  ·rw [if_neg h2, if_neg]
   rintro ⟨h3, h4⟩
   rw [List.mem_append, List.mem_singleton] at h4
   rcases h4 with h4 | h4
   ·exact h2 ⟨h3, h4⟩
   ·omega
theorem blkD_out (t : List NodeD) (ps : List Int) (u : Int) {n y : Nat} (hu : u < 0 ∨ (n : Int) / 2 < u) (hy : y < n) : blkD t (ps ++ [u]) y = blkD t ps y := by
 unfold blkD
 by_cases h2 : y % 2 = 0 ∧ ((y / 2 : Nat) : Int) ∈ ps
 ·rw [if_pos h2, if_pos ⟨h2.1, List.mem_append.2 (.inl h2.2)⟩]
 ·rw [if_neg h2, if_neg]
  rintro ⟨h3, h4⟩
  rw [List.mem_append, List.mem_singleton] at h4
  rcases h4 with h4 | h4
  ·exact h2 ⟨h3, h4⟩
  ·omega
theorem take_snoc (ps : List Int) {r : Nat} (h : r < ps.length) : ps.take (r + 1) = ps.take r ++ [ps.getD r 0] := by
 rw [List.take_succ_eq_append_getElem h, getD_get h]
/-- the late lists of the first x nodes are done -/
def woF (t : List NodeD) (ps : List Int) (x y : Nat) : NodeD := if y < x then woD t ps y else blkD t ps y
theorem woF_even (t : List NodeD) (ps : List Int) (x m : Nat) : woF t ps x (2 * m) = if (m : Int) ∈ ps then noNodeD else nd t (2 * m) := by
 unfold woF blkD
 rw [woD_even (by omega), show 2 * m / 2 = m by omega]
 split
 ·rfl
 ·by_cases h : (m : Int) ∈ ps
  ·rw [if_pos h, if_pos ⟨by omega, h⟩]
  ·rw [if_neg h, if_neg fun h2 => h h2.2]
theorem woF_self (t : List NodeD) (ps : List Int) (x : Nat) : woF t ps x x = blkD t ps x := by unfold woF; rw [if_neg (by omega)]
/-- late leaves of a tree that may be -/
theorem right_lates {t : List NodeD} (hr : rightT t = true) {x : Nat} (hx : x < t.length) : ∀ u ∈ (nd t x).par.late, ∃ m : Nat, u = (m : Int) ∧ 2 * m < t.length ∧ (nd t (2 * m)).kind ≠ 0 := by
 rw [rightT, Bool.and_eq_true, Bool.and_eq_true, Bool.and_eq_true] at hr
 obtain ⟨h1, hp, _, hl⟩ := hr
 obtain ⟨d, hd, hN, hlen⟩ := leavesN_pos (of_decide_eq_true h1)
 intro u hu
 obtain ⟨h2, m, rfl, hm⟩ := placed_late hp hx hu
 have hL := lateTB_out (latesB_out hl x hx) _ hu
 refine ⟨m, rfl, ?_, ?_⟩
 ·have := hL.1; rw [hN] at this; omega
 ·have := hL.2.2.1
  rwa [show (2 * ((m : Nat) : Int)).toNat = 2 * m by omega] at this
theorem right_placed {t : List NodeD} (hr : rightT t = true) : placedB t = true := by
 rw [rightT, Bool.and_eq_true, Bool.and_eq_true] at hr
 exact hr.2.1
theorem right_pos {t : List NodeD} (hr : rightT t = true) : ∃ h : Nat, t.length = 2 * h + 1 := by
 rw [rightT, Bool.and_eq_true] at hr
 obtain ⟨d, hd, hN, hlen⟩ := leavesN_pos (of_decide_eq_true hr.1)
 have : 0 < 2 ^ d := Nat.pos_of_ne_zero (by simp)
 exact ⟨2 ^ d - 1, by omega⟩
theorem blkD_late {t : List NodeD} (ps : List Int) {x : Nat} {u : Int} (h : u ∈ (blkD t ps x).par.late) : u ∈ (nd t x).par.late := by
 unfold blkD at h
 split at h
 ·cases h
 ·exact h
theorem woF_step {t : List NodeD} (ps : List Int) (hr : rightT t = true) {x : Nat} (hx : x < t.length) :
  (fun y => if y = x then (⟨(woF t ps x x).kind, (woF t ps x x).leaf, ⟨(woF t ps x x).par.box, (woF t ps x x).par.hash, (woF t ps x x).par.late.filter fun u => !blankP (woF t ps x) u⟩⟩ : NodeD) else woF t ps x y) = woF t ps (x + 1) := by
 have hp := right_placed hr
 funext y
 by_cases e : y = x
 ·subst e
  rw [if_pos rfl, woF_self]
  unfold woF
  rw [if_pos (by omega)]
  by_cases hev : y % 2 = 0
  ·rw [woD_even hev]
   unfold blkD
   by_cases hm : ((y / 2 : Nat) : Int) ∈ ps
   ·rw [if_pos ⟨hev, hm⟩, if_pos hm]; rfl
   ·rw [if_neg (by rintro ⟨_, h⟩; exact hm h), if_neg hm]
    have hk := (placed_at hp hx).1
    rw [otherK_even hev] at hk
    have hl := right_nolate (placed_at hp hx).2 hk
    obtain ⟨d, hd⟩ : ∃ d, d = nd t y := ⟨_, rfl⟩
    rw [← hd] at hl ⊢
    obtain ⟨k, l, b, hh, la⟩ := d
    simp only at hl
    subst hl
    rfl
  ·have hod : y % 2 = 1 := by omega
   rw [woD_odd hod]
   have hb : blkD t ps y = nd t y := by unfold blkD; rw [if_neg (by rintro ⟨h, _⟩; omega)]
   rw [hb]
   congr 2
   apply List.filter_congr
   intro u hu
   obtain ⟨m, rfl, hm, hk⟩ := right_lates hr hx u hu
   have e1 : blankP (fun z => if z < y then woD t ps z else blkD t ps z) ((m : Nat) : Int) = ((if (m : Int) ∈ ps then noNodeD else nd t (2 * m)).kind == 0) := by
    have := woF_even t ps y m
    unfold woF at this
    unfold blankP
    rw [Int.toNat_natCast]
    show ((if 2 * m < y then woD t ps (2 * m) else blkD t ps (2 * m)).kind == 0) = _
    rw [this]
   rw [e1]
   by_cases hin : (m : Int) ∈ ps
   ·rw [if_pos hin]; simp [hin, noNodeD]
   ·rw [if_neg hin]; simp [hin, hk]
 ·rw [if_neg e]
  unfold woF
  by_cases h : y < x
  ·rw [if_pos h, if_pos (by omega)]
  ·rw [if_neg h, if_neg (by omega)]
theorem woF_kind {t : List NodeD} (hok : TreeOk t) (ps : List Int) (x y : Nat) : (woF t ps x y).kind < 256 := by
 unfold woF blkD
 split
 ·exact (woD_ok hok ps y).kind
 ·split
  ·exact noNode_ok.kind
  ·exact (hok.nd y).kind
/-- one node's round -/
theorem wo_round {t : List NodeD} (hs : smallT t = true) (hok : TreeOk t) (hr : rightT t = true) (ps : List Int) {w W : World} {c g cap x : Nat} (hx : x < t.length) (hj : WJ w W c g cap t.length (woF t ps x)) :
  ∃ xs V L RL, HoleI w W.drew c g cap t.length (woF t ps x) xs x V ∧ HoleA w.heap.size c g t.length xs x V ∧ Own W w.heap.size 3 V (ivs .i64 L) ∧
   (∀ wx, KW wx c g cap t.length (woF t ps x) → Own wx w.heap.size 3 V (ivs .i64 L) → Calls Tryz.prog 262 #[V, .func (.func 263) #[] #[.pointer (some ⟨c, 0, none⟩)]] wx fun e w' => ∃ v', e = .returned v' ∧ Own w' w.heap.size 3 v' (ivs .i64 RL) ∧ Value.ownBlock v' = Value.ownBlock V ∧ wx.grownBy w' (Value.ownBlock V)) ∧
   (fun y => if y = x then (⟨(woF t ps x x).kind, (woF t ps x x).leaf, ⟨(woF t ps x x).par.box, (woF t ps x x).par.hash, RL⟩⟩ : NodeD) else woF t ps x y) = woF t ps (x + 1) := by
 obtain ⟨xs, V, h1, h2, h3⟩ := hj.hole (fun y _ => woF_kind hok ps x y) hx
 have hlen := smallT_len hs
 refine ⟨xs, V, _, _, h1.drew, h2, h3, fun wx hkw ho => ?_, woF_step ps hr hx⟩
 refine delWo_any _ c g cap t.length w.heap.size V _ wx ho hkw (by omega) (fun u hu => ?_) ?_ h2.vc h2.vg
 ·rw [woF_self] at hu
  obtain ⟨m, e, hm, _⟩ := right_lates hr hx u (blkD_late ps hu)
  exact ⟨m, e, hm⟩
 ·rw [woF_self]
  have := of_decide_eq_true (smallT_nd hs x)
  unfold blkD
  split
  ·exact Nat.zero_le _
  ·omega
theorem wj_start {w w1 : World} {t : List NodeD} {ps : List Int} {g cap : Nat} (h : TreeO w1 w.heap.size (.slice (some ⟨g, 0, none⟩) t.length cap) t) (hb : Below w.heap.size w w1) :
  WJ w (w1.alloc (.cells #[.slice (some ⟨g, 0, none⟩) t.length cap] 22)) w1.heap.size g cap t.length (blkD t (ps.take 0)) :=
 ⟨Blk.new _ _ _, (h.f.congr fun y _ => by rw [List.take_zero, blkD_nil]).alloc _, hb.alloc hb.size _⟩
set_option maxRecDepth 100000 in
set_option maxHeartbeats 4000000 in
theorem without_any (v vp : Value) (t : List NodeD) (ps : List Int) (w : World) (h : TreeR w v t) (hp : Rd w vp (ivs .i64 ps)) (hs : smallT t = true) (hok : TreeOk t) (hr : rightT t = true) (hl : ps.length ≤ 1000) :
  Calls Tryz.prog 239 #[v, vp] w fun e w' => ∃ v', e = .returned v' ∧ TreeO w' w.heap.size v' (listT t.length (woD t ps)) ∧ Below w.heap.size w w' := by
 have TC := treeCopy_any v t w h hs
 have hlen := smallT_len hs
 obtain ⟨hf, hfn⟩ := right_pos hr
 obtain ⟨a, cv, rfl, hc, hc2⟩ := h.sl
 obtain ⟨ap, cp, rfl⟩ : ∃ ap cp, vp = .slice ap ps.length cp := by obtain ⟨ap, cp, e, _⟩ := hp; rw [ivs_len'] at e; exact ⟨ap, cp, e⟩
 have PT := fun (W : World) (hw : Below w.heap.size w W) (r : Nat) (hr : r < ps.length) => (hp.below hw (Nat.le_refl _)).at3 (u := .int .i64 (ps.getD r 0)) (r := r) (by simp [ivs, List.getD_eq_getElem?_getD, hr])
 have START := fun (w1 : World) (g cap : Nat) (h : TreeO w1 w.heap.size (.slice (some ⟨g, 0, none⟩) t.length cap) t) (hb : Below w.heap.size w w1) => wj_start (ps := ps) h hb
 have SIN := fun (W : World) (c g cap r m : Nat) (hr : r < ps.length) (hm : 2 * m < t.length) (hu : ps.getD r 0 = (m : Int)) (hj : WJ w W c g cap t.length (blkD t (ps.take r))) => (show WJ w (W.setCells g (2 * m * 10) blankC.toList) c g cap t.length (blkD t (ps.take (r + 1))) from by
  rw [take_snoc ps hr, hu]
  exact (hj.blank hm).congr fun y _ => blkD_in t _ m y)
 have SOUT := fun (W : World) (c g cap r : Nat) (hr : r < ps.length) (hu : ps.getD r 0 < 0 ∨ (t.length : Int) / 2 < ps.getD r 0) (hj : WJ w W c g cap t.length (blkD t (ps.take r))) => (show WJ w W c g cap t.length (blkD t (ps.take (r + 1))) from by
  rw [take_snoc ps hr]
  exact hj.congr fun y hy => blkD_out t _ _ hu hy)
 have SMID := fun (W : World) (c g cap : Nat) (hj : WJ w W c g cap t.length (blkD t (ps.take ps.length))) => (show WJ w W c g cap t.length (woF t ps 0) from by
  rw [List.take_length] at hj
  exact hj.congr fun y _ => by unfold woF; rw [if_neg (by omega)])
 have RND := fun (W : World) (c g cap x : Nat) (hx : x < t.length) (hj : WJ w W c g cap t.length (woF t ps x)) => wo_round hs hok hr ps hx hj
 have FIN := fun (W : World) (c g cap : Nat) (hj : WJ w W c g cap t.length (woF t ps t.length)) => (show TreeO W w.heap.size (.slice (some ⟨g, 0, none⟩) t.length cap) (listT t.length (woD t ps)) from (hj.tree.congr fun y hy => by unfold woF; rw [if_pos hy]).o)
 obtain ⟨P1, hP1⟩ : ∃ P1 : Nat → Nat → NodeD, P1 = fun r => blkD t (ps.take r) := ⟨_, rfl⟩
 have hP1' : ∀ r, blkD t (ps.take r) = P1 r := fun r => by rw [hP1]
 obtain ⟨P2, hP2⟩ : ∃ P2 : Nat → Nat → NodeD, P2 = woF t ps := ⟨_, rfl⟩
 simp only [hP1'] at START SIN SOUT SMID
 rw [← hP2] at SMID RND FIN
 obtain ⟨U, hU⟩ : ∃ U : Nat → Int, U = fun r => ps.getD r 0 := ⟨_, rfl⟩
 have hU' : ∀ r, ps.getD r 0 = U r := fun r => by rw [hU]
 simp only [hU'] at PT SIN SOUT
 obtain ⟨OUT, hOUT⟩ : ∃ OUT, OUT = listT t.length (woD t ps) := ⟨_, rfl⟩
 rw [← hOUT] at FIN ⊢
 have SLV := fun (w1 : World) (v1 : Value) (h : TreeO w1 w.heap.size v1 t) => (h.f.sl (show 0 < t.length by omega))
 obtain ⟨n, hn⟩ : ∃ n, n = t.length := ⟨_, rfl⟩
 rw [← hn] at START SIN SOUT SMID RND FIN SLV hlen hfn hc TC ⊢
 obtain ⟨k, hk⟩ : ∃ k, k = ps.length := ⟨_, rfl⟩
 rw [← hk] at PT SIN SOUT SMID hl ⊢
 have hq : (n : Int) / 2 = (hf : Int) := by omega
 have HTC := Lib.hid TC
 have HPT := Lib.hid PT
 have HST := Lib.hid START
 have HIN := Lib.hid SIN
 have HOUT := Lib.hid SOUT
 have HMID := Lib.hid SMID
 have HRND := Lib.hid RND
 have HFIN := Lib.hid FIN
 have HSLV := Lib.hid SLV
 have HFN := Lib.hid hfn
 clear TC PT START SIN SOUT SMID RND FIN SLV hP1 hP1' hP2 hU hU' hOUT hk hn hfn h hp hs hok hr
 go_enter Tryz.func239, Tryz.ntmps239
 go_wp2_with fail
 refine (HTC.out).mono ?_
 rintro e w1 ⟨v1, rfl, hto, hb1⟩
 obtain ⟨g, cap, rfl, hg1, hg2, hg3, hg4⟩ := HSLV.out w1 v1 hto
 have HJ0 := Lib.hid (HST.out w1 g cap hto hb1)
 have hcap : cap ≤ 9223372036854775807 := by unfold maxLen at hg4; exact hg4
 clear hto hb1 hg1 hg2 hg4
 go_wp2_with fail
 generalize hw2 : w1.alloc (.cells #[.slice (some ⟨g, 0, none⟩) n cap] 22) = w2 at HJ0 ⊢
 generalize hce : w1.heap.size = c at HJ0 ⊢
 clear hw2 hce
 go_loopg [13] k (fun q iv wr => ∃ r : Nat, r + q = k ∧ iv = .int .i64 (r : Nat) ∧ WJ w wr c g cap n (P1 r))
 case atStart => exact ⟨0, by omega, rfl, HJ0.out⟩
 case round =>
  obtain ⟨r, hr, rfl, hj⟩ := hrel
  have HR := Lib.hid hr
  have HJ := Lib.hid hj
  by_cases hlt : r < k
  ·have hlt' : decide (r < k) = true := decide_eq_true hlt
   have hltI : (r : Int) < (k : Int) := by omega
   obtain ⟨bp, op, rfl, hbl, cu⟩ := HPT.out wr hj.low r hlt
   obtain ⟨u, hu⟩ : ∃ u, u = U r := ⟨_, rfl⟩
   rw [← hu] at cu
   have cv := hj.cell
   have HU := Lib.hid hu
   clear hr hj hu
   by_cases h0 : 0 ≤ u
   ·have h0' : decide (u ≥ 0) = true := decide_eq_true h0
    by_cases h1 : u ≤ (hf : Int)
    ·have h1' : decide (u ≤ (hf : Int)) = true := decide_eq_true h1
     obtain ⟨m, hm⟩ : ∃ m : Nat, u = (m : Int) := ⟨u.toNat, by omega⟩
     have hmn : 2 * m < n := by have := HFN.out; omega
     have HTH := Lib.hid (HJ.out.there hmn)
     have HI := Lib.hid (HIN.out wr c g cap r m hlt hmn (by rw [← HU.out]; exact hm) HJ.out)
     have hw : wrap64 (2 * u) = 2 * u := by unfold wrap64; omega
     have hm2 : (2 * u).toNat = 2 * m := by omega
     have hmI : 2 * u < (n : Int) := by omega
     have hm0 : 0 ≤ 2 * u := by omega
     clear hm
     go_wp2_with (refine wpList_store_mid rfl 54 (.tmp 30) (.tmp 29) rfl g (2 * m * 10) blankC rfl rfl (by rw [blankC_size]; exact HTH.out) (by rw [blankC_size]; exact node_info) blankC_one ?_; obtain ⟨w9, hw9⟩ : ∃ w9, w9 = wr.setCells g (2 * m * 10) blankC.toList := ⟨_, rfl⟩; rw [← hw9] at HI ⊢; clear hw9)
     go_roundg (gk - 1)
     case measure => have := HR.out; omega
     case rel => exact ⟨r + 1, by have := HR.out; omega, by go_num, HI.out⟩
    ·have h1' : decide (u ≤ (hf : Int)) = false := decide_eq_false h1
     go_wp2_with fail
     go_roundg (gk - 1)
     case measure => have := HR.out; omega
     case rel => exact ⟨r + 1, by have := HR.out; omega, by go_num, HOUT.out wr c g cap r hlt (.inr (by rw [← HU.out]; omega)) HJ.out⟩
   ·have h0' : decide (u ≥ 0) = false := decide_eq_false h0
    go_wp2_with fail
    go_roundg (gk - 1)
    case measure => have := HR.out; omega
    case rel => exact ⟨r + 1, by have := HR.out; omega, by go_num, HOUT.out wr c g cap r hlt (.inl (by rw [← HU.out]; omega)) HJ.out⟩
  ·obtain rfl : r = k := by have := HR.out; omega
   have hlt' : decide (r < r) = false := decide_eq_false hlt
   have HJM := Lib.hid (HMID.out wr c g cap HJ.out)
   have cv := hj.cell
   clear hr hj hlt
   go_wp2_with fail
   go_loopg [34] n (fun q iv wr => ∃ x : Nat, x + q = n ∧ iv = .int .i64 (x : Nat) ∧ WJ w wr c g cap n (P2 x))
   case atStart => exact ⟨0, by omega, rfl, HJM.out⟩
   case round =>
    obtain ⟨x, hx, rfl, hj⟩ := hrel
    have HX := Lib.hid hx
    by_cases hlt : x < n
    ·have hlt' : decide (x < n) = true := decide_eq_true hlt
     have hltI : (x : Int) < (n : Int) := by omega
     obtain ⟨xs, V, L, RL, h1, h2, h3, h4, h5⟩ := HRND.out wr c g cap x hlt hj
     have HH := Lib.hid h1
     have HA := Lib.hid h2
     have HWR := Lib.hid h3
     have HDEL := Lib.hid h4
     have HF2 := Lib.hid h5
     clear h1 h2 h3 h4 h5 hx hj
     obtain ⟨F1, hF1⟩ : ∃ F1, F1 = P2 x := ⟨_, rfl⟩
     obtain ⟨F2, hF2⟩ : ∃ F2, F2 = P2 (x + 1) := ⟨_, rfl⟩
     rw [← hF1] at HH HDEL HF2
     rw [← hF2] at HF2
     have HF := Lib.hid hF2
     clear hF1 hF2
     go_wp2_with fail
     refine wp_region_rel_last [fun v _ => v = .slice (some ⟨g, 0, none⟩) n cap, fun v _ => v = .int .i64 (x : Nat), fun v _ => v = .slice (some ⟨g, 0, none⟩) n cap, fun v _ => v = .int .i64 (x : Nat), fun v _ => v = .pointer (some ⟨g, x * 10, none⟩), fun v _ => v = .pointer (some ⟨g, x * 10 + 7, none⟩), fun v _ => v = .pointer (some ⟨g, x * 10 + 9, none⟩), fun v _ => v = V, fun v _ => v = .func (.func 263) #[] #[.pointer (some ⟨c, 0, none⟩)], fun v w' => Own w' w.heap.size 3 v (ivs .i64 RL) ∧ Value.ownBlock v = Value.ownBlock V, fun v _ => v = .pointer (some ⟨g, x * 10, none⟩), fun v _ => v = .pointer (some ⟨g, x * 10 + 7, none⟩), fun v _ => v = .pointer (some ⟨g, x * 10 + 9, none⟩), fun v w' => WJ w w' c g cap n F2]
      [false, false, false, false, false, false, false, false, false, false, false, false, false, true] (fun X => HoleI w X c g cap n F1 xs x V) (fun X Y => X.grownBy Y (Value.ownBlock V)) (some 9) 13 (by kernel_rfl) ?_ (HH.out) (fun X Y hx h => ⟨h.1, h.2, h.3, h.size, fun k hk _ => h.block k hk⟩) (fun X Y hx hs => hx.grown HA.out hs) (by kernel_rfl) (by kernel_rfl) (by kernel_rfl) ?_ ?_
     ·exact keepsR_s (fun _ _ _ h _ _ => h) (keepsR_s (fun _ _ _ h _ _ => h) (keepsR_s (fun _ _ _ h _ _ => h) (keepsR_s (fun _ _ _ h _ _ => h) (keepsR_s (fun _ _ _ h _ _ => h) (keepsR_s (fun _ _ _ h _ _ => h) (keepsR_s (fun _ _ _ h _ _ => h) (keepsR_s (fun _ _ _ h _ _ => h) (keepsR_s (fun _ _ _ h _ _ => h) (keepsR_q (fun v x y h _ hs => ⟨h.1.below hs (Nat.le_refl _), h.2⟩) (keepsR_n (fun _ _ _ h _ _ => h) (keepsR_n (fun _ _ _ h _ _ => h) (keepsR_n (fun _ _ _ h _ _ => h) (keepsR_n (fun _ _ _ _ _ _ => trivial) (keepsR_nil))))))))))))))
     ·refine .cons (owed8_go ?_) (.cons (owed8_go ?_) (.cons (owed8_go ?_) (.cons (owed8_go ?_) (.cons (owed8_go ?_) (.cons (owed8_go ?_) (.cons (owed8_go ?_) (.cons (owed8_go ?_) (.cons (owed8_go ?_) (.cons (owed8_go ?_) (.cons (owed8_go ?_) (.cons (owed8_go ?_) (.cons (owed8_go ?_) (.cons (owed8_go ?_) (.nil))))))))))))))
      ·intro a wx hbx hq ho hf
       have hbx : HoleI w wx c g cap n F1 xs x V := hbx
       clear hq
       refine ⟨rfl, ?_⟩
       intro K hK
       have e0 : a.tmps[5]?.getD undef = .pointer (some ⟨c, 0, none⟩) := ho 5 (by kernel_rfl)
       have d1 : wx.cell? ⟨c, 0, none⟩ = some (.slice (some ⟨g, 0, none⟩) n cap) := hbx.kw.var
       go_simp
       exact hK _ _ rfl (fun _ => stepR_no rfl (Below.refl _ _))
      ·intro a wx hbx hq ho hf
       have hbx : HoleI w wx c g cap n F1 xs x V := hbx
       clear hq
       refine ⟨rfl, ?_⟩
       intro K hK
       have e0 : a.tmps[8]?.getD undef = .int .i64 (x : Nat) := ho 8 (by kernel_rfl)
       go_simp
       exact hK _ _ rfl (fun _ => stepR_no rfl (Below.refl _ _))
      ·intro a wx hbx hq ho hf
       have hbx : HoleI w wx c g cap n F1 xs x V := hbx
       clear hq
       refine ⟨rfl, ?_⟩
       intro K hK
       have e0 : a.tmps[5]?.getD undef = .pointer (some ⟨c, 0, none⟩) := ho 5 (by kernel_rfl)
       have d1 : wx.cell? ⟨c, 0, none⟩ = some (.slice (some ⟨g, 0, none⟩) n cap) := hbx.kw.var
       go_simp
       exact hK _ _ rfl (fun _ => stepR_no rfl (Below.refl _ _))
      ·intro a wx hbx hq ho hf
       have hbx : HoleI w wx c g cap n F1 xs x V := hbx
       clear hq
       refine ⟨rfl, ?_⟩
       intro K hK
       have e0 : a.tmps[8]?.getD undef = .int .i64 (x : Nat) := ho 8 (by kernel_rfl)
       go_simp
       exact hK _ _ rfl (fun _ => stepR_no rfl (Below.refl _ _))
      ·intro a wx hbx hq ho hf
       have hbx : HoleI w wx c g cap n F1 xs x V := hbx
       clear hq
       refine ⟨rfl, ?_⟩
       intro K hK
       have e0 : a.tmps[39]?.getD undef = .slice (some ⟨g, 0, none⟩) n cap := hf.1
       have e1 : a.tmps[40]?.getD undef = .int .i64 (x : Nat) := hf.2.1
       go_simp
       exact hK _ _ rfl (fun _ => stepR_no rfl (Below.refl _ _))
      ·intro a wx hbx hq ho hf
       have hbx : HoleI w wx c g cap n F1 xs x V := hbx
       clear hq
       refine ⟨rfl, ?_⟩
       intro K hK
       have e0 : a.tmps[41]?.getD undef = .pointer (some ⟨g, x * 10, none⟩) := hf.1
       go_simp
       exact hK _ _ rfl (fun _ => stepR_no rfl (Below.refl _ _))
      ·intro a wx hbx hq ho hf
       have hbx : HoleI w wx c g cap n F1 xs x V := hbx
       clear hq
       refine ⟨rfl, ?_⟩
       intro K hK
       have e0 : a.tmps[42]?.getD undef = .pointer (some ⟨g, x * 10 + 7, none⟩) := hf.1
       go_simp
       exact hK _ _ rfl (fun _ => stepR_no rfl (Below.refl _ _))
      ·intro a wx hbx hq ho hf
       have hbx : HoleI w wx c g cap n F1 xs x V := hbx
       have hbq : Below wr.heap.size wr wx := hq (by kernel_rfl)
       clear hq
       refine ⟨rfl, ?_⟩
       intro K hK
       have e0 : a.tmps[43]?.getD undef = .pointer (some ⟨g, x * 10 + 9, none⟩) := hf.1
       have d1 := (hbx.late HA.out).1
       go_simp
       exact hK _ _ rfl (fun _ => stepR_no rfl (Below.refl _ _))
      ·intro a wx hbx hq ho hf
       have hbx : HoleI w wx c g cap n F1 xs x V := hbx
       have hbq : Below wr.heap.size wr wx := hq (by kernel_rfl)
       clear hq
       refine ⟨rfl, ?_⟩
       intro K hK
       have e0 : a.tmps[5]?.getD undef = .pointer (some ⟨c, 0, none⟩) := ho 5 (by kernel_rfl)
       go_simp
       exact hK _ _ rfl (fun _ => stepR_no rfl (Below.refl _ _))
      ·intro a wx hbx hq ho hf
       have hbx : HoleI w wx c g cap n F1 xs x V := hbx
       have hbq : Below wr.heap.size wr wx := hq (by kernel_rfl)
       clear hq
       refine ⟨rfl, ?_⟩
       intro K hK
       have e0 : a.tmps[44]?.getD undef = V := hf.1
       have e1 : a.tmps[45]?.getD undef = .func (.func 263) #[] #[.pointer (some ⟨c, 0, none⟩)] := hf.2.1
       go_simp
       refine (HDEL.out wx hbx.kw (HWR.out.below hbq (Nat.le_refl _))).mono ?_
       rintro e w2 ⟨v9, rfl, ho9, hv9, hg9⟩
       exact hK _ _ ⟨ho9, hv9⟩ (fun _ => stepR_yes rfl hg9)
      ·intro a wx hbx hq ho hf
       have hbx : HoleI w wx c g cap n F1 xs x V := hbx
       clear hq
       refine ⟨rfl, ?_⟩
       intro K hK
       have e0 : a.tmps[37]?.getD undef = .slice (some ⟨g, 0, none⟩) n cap := hf.1
       have e1 : a.tmps[38]?.getD undef = .int .i64 (x : Nat) := hf.2.1
       go_simp
       exact hK _ _ rfl (fun _ => stepR_no rfl (Below.refl _ _))
      ·intro a wx hbx hq ho hf
       have hbx : HoleI w wx c g cap n F1 xs x V := hbx
       clear hq
       refine ⟨rfl, ?_⟩
       intro K hK
       have e0 : a.tmps[47]?.getD undef = .pointer (some ⟨g, x * 10, none⟩) := hf.1
       go_simp
       exact hK _ _ rfl (fun _ => stepR_no rfl (Below.refl _ _))
      ·intro a wx hbx hq ho hf
       have hbx : HoleI w wx c g cap n F1 xs x V := hbx
       clear hq
       refine ⟨rfl, ?_⟩
       intro K hK
       have e0 : a.tmps[48]?.getD undef = .pointer (some ⟨g, x * 10 + 7, none⟩) := hf.1
       go_simp
       exact hK _ _ rfl (fun _ => stepR_no rfl (Below.refl _ _))
      ·intro a wx hbx hq ho hf
       have hbx : HoleI w wx c g cap n F1 xs x V := hbx
       clear hq
       refine ⟨rfl, ?_⟩
       intro K hK
       have e0 : a.tmps[49]?.getD undef = .pointer (some ⟨g, x * 10 + 9, none⟩) := hf.1
       have o1 : Own wx w.heap.size 3 (a.tmps[46]?.getD undef) (ivs .i64 RL) ∧ Value.ownBlock (a.tmps[46]?.getD undef) = Value.ownBlock V := hf.2.1
       obtain ⟨v1, hv1⟩ : ∃ v, v = a.tmps[46]?.getD undef := ⟨_, rfl⟩
       rw [← hv1] at o1
       have e1 := hv1.symm
       clear hv1
       have d1 := (hbx.late HA.out).1
       have d2 := (hbx.late HA.out).2
       have dd := hbx.put HA.out o1.1 o1.2
       rw [HF2.out] at dd
       obtain ⟨q1, q2, q3, rfl⟩ := slOf o1.1
       clear o1
       go_simp
       exact hK undef _ dd (fun h => absurd rfl h)
     ·rintro f w9 hfin
      have S49 : WJ w w9 c g cap n F2 := hfin.2.2.2.2.2.2.2.2.2.2.2.2.2.1
      clear hfin
      simp only [frameOf, dstsOf, zipF, List.filterMap_cons, List.filterMap_nil, List.contains_cons, List.contains_nil, Nat.reduceBEq, Nat.reduceAdd, Bool.or_false, Bool.or_true, cond_true, cond_false]
      go_wp2_with fail
      go_roundg (gk - 1)
      case measure => have := HX.out; omega
      case rel => exact ⟨x + 1, by have := HX.out; omega, by go_num, by rw [← HF.out]; exact S49⟩
    ·obtain rfl : x = n := by have := HX.out; omega
     have hlt' : decide (x < x) = false := decide_eq_false hlt
     have cv := hj.cell
     have HF := Lib.hid (HFIN.out wr c g cap hj)
     have HB := Lib.hid hj.low
     clear hx hj hlt
     go_wp2_with fail
     go_ret
     exact ⟨_, rfl, HF.out, HB.out⟩
end Go.Proofs.YtngealmhgkoaiaaGreat
/- Walks: hash.hashed, hash.Without. -/
namespace Go.Proofs.YtngealmhgkoaiaaGreat
open Go.RowKit WalkM ShaM WireM
set_option linter.unusedVariables false
theorem Own.keepG {w w' : World} {B g : Nat} {e T : TypeId} {v : Value} {xs : List Value} {cs : Array Value} (h : Own w B e v xs) (hb : Blk w g T cs) (he : e ≠ T) (ho : OnlyG g w w') : Own w' B e v xs := by
 have hne := h.ne_blk hb he
 obtain ⟨h1, h2 | ⟨g', cp, cur, rfl, hg, hh, rest⟩⟩ := h
 ·exact ⟨h1, .inl h2⟩
 ·refine ⟨h1, .inr ⟨g', cp, cur, rfl, hg, ?_, rest⟩⟩
  have hl : g' < w.heap.size := Blk.lt hh
  rw [ho.2.2 g' hl (by intro e; exact hne (by simp [Value.ownBlock, e]))]
  exact hh
/-- a tree in new memory lies apart from a variable of rows -/
theorem TreeO.g {w : World} {B g : Nat} {v : Value} {t : List NodeD} {cs : Array Value} (h : TreeO w B v t) (hb : Blk w g 25 cs) (hne : t ≠ []) : TreeG w g v t := by
 have hR := h.r
 obtain ⟨xs, h1, h2⟩ := h
 have hp : 0 < t.length := List.length_pos_iff.2 hne
 obtain ⟨b, cap, rfl, hB, hlt, hn, hm, hc, cur, hcur, _⟩ := h1.out hp
 have hbg : b ≠ g := by
  intro e
  rw [e] at hcur
  unfold Blk at hb
  rw [hcur] at hb
  simp at hb
 refine ⟨_, cap, rfl, hn, hm, fun i hi => ⟨b, 0, (cellsAt xs i).toArray, rfl, hlt, hbg, ?_, ?_, fun W hW => ?_⟩⟩
 ·exact (h2.2.1 i hi).c.size
 ·intro j u hu
  have := hc _ u (cellsAt_get h2.1 hi (k := j) (by simpa using hu))
  rw [show 0 + i * 10 + j = 10 * i + j by omega]
  exact this
 ·have hno := h2.2.1 i hi
  obtain ⟨x0, x1, x2, x3, x4, u0, u1, u2, e, k0, k1, k2, k3, k4, k5, k6, k7⟩ := hno
  exact NodeO.c (B := B) ⟨x0, x1, x2, x3, x4, u0, u1, u2, e, k0.keepG hb (by decide) hW, k1.keepG hb (by decide) hW, k2.keepG hb (by decide) hW, k3.keepG hb (by decide) hW, k4.keepG hb (by decide) hW, k5.keepG hb (by decide) hW, k6.keepG hb (by decide) hW, k7.keepG hb (by decide) hW⟩
theorem lev_within {t : List NodeD} (hs : smallT t = true) (hr : rightT t = true) {x : Nat} (hx : x < t.length) : IsLev x (lev x) ∧ x + 2 ^ lev x ≤ t.length := by
 have hln : leavesN t.length ≠ 0 := by
  rw [rightT, Bool.and_eq_true] at hr
  exact of_decide_eq_true hr.1
 obtain ⟨d, hd, hN, hl⟩ := leavesN_pos hln
 have hlen := smallT_len hs
 have e : 2 ^ (d + 1) = 2 * 2 ^ d := by rw [Nat.pow_succ]; omega
 exact ⟨lev_is (by omega), by have := under_in (x := x) (d := d) (by omega) hd; omega⟩
set_option maxRecDepth 100000 in
set_option maxHeartbeats 4000000 in
theorem hashed_any (v vp : Value) (t : List NodeD) (ps : List Int) (x : Nat) (w : World) (h : TreeR w v t) (hp : Rd w vp (ivs .i64 ps)) (hs : smallT t = true) (hok : TreeOk t) (hr : rightT t = true) (hl : ps.length ≤ 1000) (hx : x < t.length) :
  Calls Tryz.prog 214 #[v, .int .i64 (x : Nat), vp] w fun e w' => ∃ v', e = .returned v' ∧ Rd w' v' (bvs (hashX (woD t ps) x)) ∧ Below w.heap.size w w' := by
 have hlen := smallT_len hs
 obtain ⟨hlv, hlx⟩ := lev_within hs hr hx
 have WO := fun (W : World) (hw : Below w.heap.size w W) => (without_any v vp t ps W (h.below hw (Nat.le_refl _)) (hp.below hw (Nat.le_refl _)) hs hok hr hl).mono (fun e w' (he : ∃ v', e = .returned v' ∧ TreeO w' W.heap.size v' (listT t.length (woD t ps)) ∧ Below W.heap.size W w') => (show ∃ v', e = .returned v' ∧ TreeO w' w.heap.size v' (listT t.length (woD t ps)) ∧ Below W.heap.size W w' from by
  obtain ⟨v', e1, h1, h2⟩ := he
  exact ⟨v', e1, by obtain ⟨xs, k1, k2⟩ := h1; exact ⟨xs, k1.mono hw.size, k2.1, fun j hj => (k2.2.1 j hj).mono hw.size, k2.2.2⟩, h2⟩))
 have FL := fun (W : World) (v0 : Value) (g : Nat) (h : TreeO W w.heap.size v0 (listT t.length (woD t ps))) (ha : AllR W g t.length (fun _ => none)) => (show Calls Tryz.prog 217 #[v0, .int .i64 (x : Nat), .slice (some ⟨g, 0, none⟩) t.length t.length] W fun e w' => ∃ v', e = .returned v' ∧ Rd w' v' (bvs (hashX (woD t ps) x)) ∧ OnlyG g W w' from by
  have hb : ∃ cs, Blk W g 25 cs := by obtain ⟨cs, hb, _⟩ := ha; exact ⟨cs, hb⟩
  obtain ⟨cs, hb⟩ := hb
  have key := fill_any (listT t.length (woD t ps)) (wo_small hs ps) (wo_ok hok ps) (wo_placed (right_placed hr) ps) (lev x) x g v0 W (fun _ => none) (h.g hb (by intro e; have := congrArg List.length e; rw [listT_len] at this; simp at this; rw [this] at hx; simp at hx)) (by rw [listT_len]; exact ha) hlv (by rw [listT_len]; exact hlx)
  rw [listT_len, wo_hash t ps hlv hlx hlen] at key
  exact key.mono fun e w' he => by obtain ⟨v', e1, h1, h2, h3, h4⟩ := he; exact ⟨v', e1, h1, h4⟩)
 obtain ⟨va, c, rfl, hc, hc2⟩ := h.sl
 obtain ⟨ap, cp, rfl⟩ : ∃ ap cp, vp = .slice ap ps.length cp := by obtain ⟨ap, cp, e, _⟩ := hp; rw [ivs_len'] at e; exact ⟨ap, cp, e⟩
 obtain ⟨n, hn⟩ : ∃ n, n = t.length := ⟨_, rfl⟩
 obtain ⟨TT, hTT⟩ : ∃ TT, TT = listT t.length (woD t ps) := ⟨_, rfl⟩
 obtain ⟨HH, hHH⟩ : ∃ HH, HH = hashX (woD t ps) x := ⟨_, rfl⟩
 rw [← hTT] at WO FL
 rw [← hHH] at FL ⊢
 rw [← hn] at WO FL hc hlen ⊢
 obtain ⟨kp, hkp⟩ : ∃ k, k = ps.length := ⟨_, rfl⟩
 rw [← hkp] at WO hl ⊢
 have HMKH := Lib.hid (make_rows (n := n) (by omega))
 have HMD := Lib.hid (fun (W : World) => made_rows W n)
 obtain ⟨Z, hZ⟩ : ∃ Z, Z = madeCells (Value.slice none 0 0).cells (n * 1) := ⟨_, rfl⟩
 rw [← hZ] at HMKH HMD
 have HWO := Lib.hid WO
 have HFL := Lib.hid FL
 clear WO FL hn hTT hHH hkp hZ h hp hs hok hr hlv hlx hx
 go_enter Tryz.func214, Tryz.ntmps214
 go_wp2_with fail
 refine wp_region_tail [fun v _ => v = .slice va n c, fun v _ => v = .slice ap kp cp, fun v w' => TreeO w' w.heap.size v TT, fun v _ => v = .int .i64 (x : Nat), fun v _ => v = .slice va n c, fun v _ => v = .int .i64 (n : Nat), fun v w' => ∃ g, v = .slice (some ⟨g, 0, none⟩) n n ∧ w.heap.size ≤ g ∧ AllR w' g n (fun _ => none), fun v w' => Rd w' v (bvs HH) ∧ Below w.heap.size w w', fun v w' => Rd w' v (bvs HH) ∧ Below w.heap.size w w']
  [false, false, false, false, false, false, false, false, true] [false, false, false, false, false, false, false, false, true] 7 (by kernel_rfl) ?_ (by kernel_rfl) (by kernel_rfl) (by kernel_rfl) ?_ ?_
 ·exact keeps_cons (fun _ _ _ h _ => h) (keeps_cons (fun _ _ _ h _ => h) (keeps_cons (fun v w1 w2 h hb => TreeO.below h hb (Nat.le_refl _)) (keeps_cons (fun _ _ _ h _ => h) (keeps_cons (fun _ _ _ h _ => h) (keeps_cons (fun _ _ _ h _ => h) (keeps_cons (fun v w1 w2 h hb => let ⟨g, e, h1, h2⟩ := h; ⟨g, e, h1, h2.below hb⟩) (keeps_cons (fun v w1 w2 h hb => ⟨h.1.below hb (Nat.le_refl _), h.2.trans (hb.mono h.2.size)⟩) (keeps_cons (fun v w1 w2 h hb => ⟨h.1.below hb (Nat.le_refl _), h.2.trans (hb.mono h.2.size)⟩) (keeps_nil)))))))))
 ·refine .cons (owed6_go ?_) (.cons (owed6_go ?_) (.cons (owed6_go ?_) (.cons (owed6_go ?_) (.cons (owed6_go ?_) (.cons (owed6_go ?_) (.cons (owed6_go ?_) (.cons (owed6_go ?_) (.cons (owed6_go ?_) (.nil)))))))))
  ·intro a wx hbx ho hf
   refine ⟨rfl, ?_⟩
   intro K hK
   have hbx := hbx rfl
   have e0 : a.tmps[0]?.getD undef = .slice va n c := ho 0 (by kernel_rfl)
   go_simp
   exact hK _ _ rfl (fun _ => Below.refl _ _)
  ·intro a wx hbx ho hf
   refine ⟨rfl, ?_⟩
   intro K hK
   have hbx := hbx rfl
   have e0 : a.tmps[2]?.getD undef = .slice ap kp cp := ho 2 (by kernel_rfl)
   go_simp
   exact hK _ _ rfl (fun _ => Below.refl _ _)
  ·intro a wx hbx ho hf
   refine ⟨rfl, ?_⟩
   intro K hK
   have hbx := hbx rfl
   have e0 : a.tmps[7]?.getD undef = .slice va n c := hf.1
   have e1 : a.tmps[8]?.getD undef = .slice ap kp cp := hf.2.1
   go_simp
   refine (HWO.out wx hbx).mono ?_
   rintro e w2 ⟨v9, rfl, hto, hb2⟩
   exact hK _ _ hto (fun _ => hb2)
  ·intro a wx hbx ho hf
   refine ⟨rfl, ?_⟩
   intro K hK
   have hbx := hbx rfl
   have e0 : a.tmps[1]?.getD undef = .int .i64 (x : Nat) := ho 1 (by kernel_rfl)
   go_simp
   exact hK _ _ rfl (fun _ => Below.refl _ _)
  ·intro a wx hbx ho hf
   refine ⟨rfl, ?_⟩
   intro K hK
   have hbx := hbx rfl
   have e0 : a.tmps[0]?.getD undef = .slice va n c := ho 0 (by kernel_rfl)
   go_simp
   exact hK _ _ rfl (fun _ => Below.refl _ _)
  ·intro a wx hbx ho hf
   refine ⟨rfl, ?_⟩
   intro K hK
   have hbx := hbx rfl
   have e0 : a.tmps[11]?.getD undef = .slice va n c := hf.1
   go_simp
   exact hK _ _ rfl (fun _ => Below.refl _ _)
  ·intro a wx hbx ho hf
   refine ⟨rfl, ?_⟩
   intro K hK
   have hbx := hbx rfl
   have e0 : a.tmps[12]?.getD undef = .int .i64 (n : Nat) := hf.1
   have HMK := HMKH.out
   go_simp
   exact hK _ _ ⟨_, rfl, hbx.size, HMD.out wx⟩ (fun _ => (Below.refl _ _).alloc (Nat.le_refl _) _)
  ·intro a wx hbx ho hf
   refine ⟨rfl, ?_⟩
   intro K hK
   have hbx := hbx rfl
   have o0 : TreeO wx w.heap.size (a.tmps[9]?.getD undef) TT := hf.1
   obtain ⟨v0, hv0⟩ : ∃ v, v = a.tmps[9]?.getD undef := ⟨_, rfl⟩
   rw [← hv0] at o0
   have e0 := hv0.symm
   clear hv0
   have e1 : a.tmps[10]?.getD undef = .int .i64 (x : Nat) := hf.2.1
   obtain ⟨g, e2, hgw, hall⟩ : ∃ g, (a.tmps[13]?.getD undef) = .slice (some ⟨g, 0, none⟩) n n ∧ w.heap.size ≤ g ∧ AllR wx g n (fun _ => none) := hf.2.2.1
   go_simp
   refine (HFL.out wx v0 g o0 hall).mono ?_
   rintro e w2 ⟨v9, rfl, hr9, ho9⟩
   exact hK _ _ ⟨hr9, hbx.trans (ho9.1.mono hgw)⟩ (fun h => absurd rfl h)
  ·rintro a wx - ho hf
   refine ⟨rfl, ?_⟩
   intro K hK
   have o0 : (fun v w' => Rd w' v (bvs HH) ∧ Below w.heap.size w w') (a.tmps[14]?.getD undef) wx := hf.1
   obtain ⟨v0, hv0⟩ : ∃ v, v = a.tmps[14]?.getD undef := ⟨_, rfl⟩
   rw [← hv0] at o0
   have e0 := hv0.symm
   clear hv0
   go_simp
   exact hK _ _ o0 (fun _ => Below.refl _ _)
 ·rintro f w9 hfin
  have S9 : Rd w9 (f 6) (bvs HH) ∧ Below w.heap.size w w9 := hfin.2.2.2.2.2.2.2.2.1
  clear hfin
  simp only [frameOf, dstsOf, zipF, List.filterMap_cons, List.filterMap_nil, List.contains_cons, List.contains_nil, Nat.reduceBEq, Nat.reduceAdd, Bool.or_false, Bool.or_true, cond_true, cond_false]
  obtain ⟨hr9, hb9⟩ := S9
  obtain ⟨u, hu⟩ : ∃ u, u = f 6 := ⟨_, rfl⟩
  rw [← hu] at hr9 ⊢
  clear hu
  go_wp2_with fail
  go_ret
  exact ⟨_, rfl, hr9, hb9⟩
end Go.Proofs.YtngealmhgkoaiaaGreat
/- Walks: the tree of one member. -/
namespace Go.Proofs.YtngealmhgkoaiaaGreat
open Go.RowKit WireM
set_option linter.unusedVariables false
end Go.Proofs.YtngealmhgkoaiaaGreat
/- Walks: tree.Add, on the tree of one member. -/
namespace Go.Proofs.YtngealmhgkoaiaaGreat
open Go.RowKit WalkM WireM
set_option linter.unusedVariables false
end Go.Proofs.YtngealmhgkoaiaaGreat
/- Walks: the law's alive of layer 17. -/
namespace Go.Proofs.YtngealmhgkoaiaaGreat
open Go.RowKit WalkM WireM
set_option linter.unusedVariables false
end Go.Proofs.YtngealmhgkoaiaaGreat
/- Walks: the law TreeResolves. -/
namespace Go.Proofs.YtngealmhgkoaiaaGreat
open Go.RowKit WalkM WireM
set_option linter.unusedVariables false
theorem rresolve_any (v : Value) (t : List NodeD) (x : Nat) (w : World) (h : TreeR w v t) (hs : smallT t = true) (hok : TreeOk t) (hr : rightT t = true) (hx : x < t.length) :
  Calls Tryz.prog 62 #[v, .int .i64 (x : Nat)] w fun e w' => ∃ v', e = .returned v' ∧ Own w' w.heap.size 3 v' (ivs .i64 (resX t x)) ∧ Below w.heap.size w w' := by
 have hl := lev_inT (by have := smallT_len hs; omega) hr hx
 exact rres_lev t hs hok (right_placedT hr) (lev x) x v w h hl.1 hl.2
end Go.Proofs.YtngealmhgkoaiaaGreat
