/- Walks: the reference's Add. -/
import Derived.Test.YtlcmodbjbdfloaaZTreeAdds36
import Derived.Test.YtlcmodbjbdfloaaZTreeAdds20
import Derived.Test.YtlcmodbjbdfloaaZTreeAdds40
namespace Go.Proofs.Ytlcmodbjbdfloaa
open Go.RowKit WalkM WireM
set_option linter.unusedVariables false
def withLate (d : NodeD) (L : List Int) : NodeD := ⟨d.kind, d.leaf, ⟨d.par.box, d.par.hash, L⟩⟩
/-- a node of lists that were there at first, but for the late list, which may be the call's own -/
def NodeP (w0 W : World) (d : NodeD) (c : Array Value) : Prop :=
  NodeC w0 d c ∨ ∃ D c0 V L, NodeC w0 D c0 ∧ Own W w0.heap.size 3 V (ivs .i64 L) ∧ d = withLate D L ∧ c = c0.setIfInBounds 9 V
theorem NodeP.c {w0 W : World} {d : NodeD} {c : Array Value} (h : NodeP w0 W d c) (hb : Below w0.heap.size w0 W) : NodeC W d c := by
  rcases h with h | ⟨D, c0, V, L, h, ho, rfl, rfl⟩
  · exact h.below hb (Nat.le_refl _)
  · have h' := h.below hb (Nat.le_refl _)
    obtain ⟨a1, c1, a2, c2, a3, c3, a4, c4, a5, c5, b1, e1, b2, e2, b3, e3, rfl, h1, h2, h3, h4, h5, h6, h7, h8⟩ := h'
    obtain ⟨a, cap, rfl⟩ : ∃ a cap, V = .slice a L.length cap := by obtain ⟨a, cap, e, _⟩ := ho.rd; rw [ivs_len'] at e; exact ⟨a, cap, e⟩
    exact ⟨a1, c1, a2, c2, a3, c3, a4, c4, a5, c5, b1, e1, b2, e2, a, cap, rfl, h1, h2, h3, h4, h5, h6, h7, ho.rd⟩
theorem NodeP.below {w0 W W' : World} {d : NodeD} {c : Array Value} (h : NodeP w0 W d c) (hb : Below W.heap.size W W') : NodeP w0 W' d c := by
  rcases h with h | ⟨D, c0, V, L, h, ho, e1, e2⟩
  · exact .inl h
  · exact .inr ⟨D, c0, V, L, h, ho.below hb (Nat.le_refl _), e1, e2⟩
theorem NodeP.grown {w0 W W' : World} {B n : Nat} {v : Value} {xs : List Value} {d : NodeD} {c : Array Value} (h : NodeP w0 W d c) (ho : OwnK W B 45 10 v n xs) (hg : W.grownBy W' v.ownBlock) : NodeP w0 W' d c := by
  rcases h with h | ⟨D, c0, V, L, h, hv, e1, e2⟩
  · exact .inl h
  · exact .inr ⟨D, c0, V, L, h, hv.grown hg (fun g hgg => ho.ne hv (by decide) g hgg), e1, e2⟩
/-- so many nodes, each as a function says; the row is the call's own -/
def TreeN (w0 W : World) (v : Value) (n : Nat) (F : Nat → NodeD) : Prop :=
  ∃ xs, OwnK W w0.heap.size 45 10 v n xs ∧ xs.length = 10 * n ∧ ∀ j, j < n → NodeP w0 W (F j) (cellsAt xs j).toArray
theorem TreeN.nil (w0 W : World) (F : Nat → NodeD) : TreeN w0 W (.slice none 0 0) 0 F := ⟨[], OwnK.nil _ _ _ _, rfl, fun j hj => by omega⟩
theorem TreeN.below {w0 W W' : World} {n : Nat} {v : Value} {F : Nat → NodeD} (h : TreeN w0 W v n F) (hb : Below W.heap.size W W') : TreeN w0 W' v n F := by
  obtain ⟨xs, h1, h2, h3⟩ := h
  exact ⟨xs, h1.below hb (Nat.le_refl _), h2, fun j hj => (h3 j hj).below hb⟩
theorem TreeN.r {w0 W : World} {n : Nat} {v : Value} {F : Nat → NodeD} (h : TreeN w0 W v n F) (hb : Below w0.heap.size w0 W) : TreeR W v (listT n F) := by
  obtain ⟨xs, h1, h2, h3⟩ := h
  rcases Nat.eq_zero_or_pos n with h0 | hp
  · subst h0
    rcases h1.2 with ⟨rfl, _⟩ | ⟨g, cap, cur, rfl, hg, hh, hn, hm, hs, ht⟩
    · exact TreeR.nil W
    · exact ⟨_, cap, rfl, hn, hm, fun i hi => absurd hi (by simp [listT])⟩
  · obtain ⟨g, cap, rfl, hB, hlt, hn, hm, hc, _⟩ := h1.out hp
    refine ⟨_, cap, by rw [listT_len], by rw [listT_len]; exact hn, hm, fun i hi => ?_⟩
    rw [listT_len] at hi
    rw [listT_nd hi]
    refine ⟨g, 0, (cellsAt xs i).toArray, rfl, hlt, (h3 i hi).c hb, ?_⟩
    intro j u hu
    have := hc _ u (cellsAt_get h2 hi (k := j) (by simpa using hu))
    rw [show 0 + i * 10 + j = 10 * i + j by omega]
    exact this
/-- one node more -/
theorem TreeN.snoc {w0 W W' : World} {n : Nat} {v v' : Value} {F : Nat → NodeD} {xs ys : List Value} (h : OwnK W w0.heap.size 45 10 v n xs) (hl : xs.length = 10 * n) (hn : ∀ j, j < n → NodeP w0 W (F j) (cellsAt xs j).toArray) (hy : ys.length = 10) (hc : NodeP w0 W (F n) ys.toArray)
    (h' : OwnK W' w0.heap.size 45 10 v' (n + 1) (xs ++ ys)) (hg : W.grownBy W' v.ownBlock) : TreeN w0 W' v' (n + 1) F := by
  refine ⟨_, h', by rw [List.length_append, hl, hy]; omega, fun j hj => ?_⟩
  by_cases e : j = n
  · subst e; rw [cellsAt_new hl hy]; exact hc.grown h hg
  · rw [cellsAt_old hl (by omega)]; exact (hn j (by omega)).grown h hg
theorem NodeP.one {w0 W : World} {d : NodeD} {c : Array Value} (h : NodeP w0 W d c) (hb : Below w0.heap.size w0 W) : ∀ u ∈ c.toList, u.oneCell' = true := by
  have := (h.c hb).one
  rw [← Array.all_toList] at this
  exact fun u hu => List.all_eq_true.1 this u hu
theorem OwnK.neBlk {w : World} {B g k n : Nat} {e T : TypeId} {v : Value} {xs : List Value} {cs : Array Value} (h : OwnK w B e k v n xs) (hb : Blk w g T cs) (he : e ≠ T) : some g ≠ v.ownBlock := by
  rcases h.2 with ⟨rfl, _⟩ | ⟨g', cap, cur, rfl, _, hh, _⟩
  · simp [Value.ownBlock]
  · intro e2
    simp only [Value.ownBlock, Option.some.injEq] at e2
    subst e2
    unfold Blk at hb
    rw [hh] at hb
    simp only [Option.some.injEq, Obj.cells.injEq] at hb
    exact he hb.2.1
theorem NodeP.set {w0 W : World} {d : NodeD} {c cs : Array Value} {g k : Nat} {u : Value} (h : NodeP w0 W d c) (hb : Blk W g 45 cs) : NodeP w0 (W.setCell ⟨g, k, none⟩ u) d c := by
  rcases h with h | ⟨D, c0, V, L, h, hv, e1, e2⟩
  · exact .inl h
  · exact .inr ⟨D, c0, V, L, h, hv.setOther (hv.ne_blk hb (by decide)) u, e1, e2⟩
/-- the free place, found from the right -/
theorem free_of {t : List NodeD} {n i a : Nat} (h1 : ∀ j, j < i → (nd t (2 * j)).kind ≠ 0) (h2 : i < n → (nd t (2 * i)).kind = 0) (hi : i ≤ n) (ha : a ≤ n) (h3 : a < n → (nd t (2 * a)).kind = 0) (h4 : ∀ j, j < a → (nd t (2 * j)).kind ≠ 0) : a = i := by
  rcases Nat.lt_trichotomy a i with e | e | e
  · exact absurd (h3 (by omega)) (h1 a e)
  · exact e
  · exact absurd (h2 (by omega)) (h4 i e)
theorem addF_leaf (t : List NodeD) (l : LeafD) (i : Nat) : addF t l i (2 * i) = heldD l := by unfold addF; rw [if_pos rfl]
theorem addF_plain {t : List NodeD} (l : LeafD) {i x : Nat} (hx : x ≠ 2 * i) (h : (nd t x).kind ≠ 2) : addF t l i x = nd t x := by unfold addF; rw [if_neg hx, if_neg (fun h2 => h h2.1)]
theorem addF_und {t : List NodeD} (l : LeafD) {d i x : Nat} (hd : d ≤ 16) (hi : 2 * i + 1 < 2 ^ (d + 1)) (hx1 : x + 1 < 2 ^ (d + 1)) (hx : x ≠ 2 * i) (h : (nd t x).kind = 2) :
    addF t l i x = if undZ (2 * (i : Int)) (x : Int) = true then lateIns (nd t x) (i : Nat) else nd t x := by
  have e := und_leaf hd hi hx1 (by omega)
  rw [show ((2 * i : Nat) : Int) = 2 * (i : Int) by omega] at e
  rw [e]
  unfold addF
  rw [if_neg hx]
  by_cases c : x = anc (2 * i) (lev x)
  · rw [if_pos ⟨h, c⟩, if_pos (decide_eq_true c)]
  · rw [if_neg (fun h2 => c h2.2), if_neg (by rw [decide_eq_false c]; decide)]
set_option maxRecDepth 100000 in
set_option maxHeartbeats 16000000 in
theorem radd_room (v : Value) (c : Array Value) (t : List NodeD) (l : LeafD) (d i : Nat) (w : World) (h : TreeR w v t) (hl : LeafC w l c) (hs : medT t = true) (hok : TreeOk t) (hlen : t.length + 1 = 2 * 2 ^ d) (h1 : ∀ j, j < i → (nd t (2 * j)).kind ≠ 0) (hi : i < 2 ^ d) (h2 : (nd t (2 * i)).kind = 0) (hd : d ≤ 15) :
    Calls Try.prog 13 #[v, .agg c] w fun e w' => ∃ v', e = .returned (.tuple #[v', .int .i64 (i : Nat)]) ∧ TreeR w' v' (listT (2 * 2 ^ d - 1) (addF t l i)) ∧ Below w.heap.size w w' := by
  have h2 : i < 2 ^ d → (nd t (2 * i)).kind = 0 := fun _ => h2
  have h17 := two_pow_le (show d + 1 ≤ 16 by omega)
  have e2 : 2 ^ (d + 1) = 2 * 2 ^ d := by rw [Nat.pow_succ]; omega
  have hmed := medT_len hs
  have hNN : leavesN t.length = 2 ^ d := leavesN_pow (by omega) hlen
  have hi1 : 2 * i + 1 < 2 ^ (d + 1) := by omega
  have LVN := fun (W : World) (ta : Option Addr) (c' : Nat) => rleaves_any ta t.length c' W (by omega)
  rw [hNN] at LVN
  obtain ⟨m, hm⟩ : ∃ m, m = 2 * 2 ^ d - 1 := ⟨_, rfl⟩
  have hm1 : m + 1 = 2 ^ (d + 1) := by omega
  have AB := fun (x : Nat) (W : World) => rabove_any x i W (by omega)
  have FLF := addF_leaf t l i
  have FPL := fun (x : Nat) (hx : x ≠ 2 * i) (h : (nd t x).kind ≠ 2) => addF_plain l hx h
  have FUN := fun (x : Nat) (hx1 : x < m) (hx : x ≠ 2 * i) (h : (nd t x).kind = 2) => addF_und (d := d) l (by omega) hi1 (by omega) hx h
  have FRE := fun (a : Nat) (ha : a ≤ 2 ^ d) (h3 : a < 2 ^ d → (nd t (2 * a)).kind = 0) (h4 : ∀ j, j < a → (nd t (2 * j)).kind ≠ 0) => free_of h1 h2 (by omega) ha h3 h4
  have FIN := fun (W : World) (v1 : Value) (h1 : TreeN w W v1 m (addF t l i)) (hb : Below w.heap.size w W) => h1.r hb
  have KB := fun (x : Nat) => (hok.nd x).kind
  have LB := fun (x : Nat) => (show (nd t x).par.late.length ≤ 60 by have := of_decide_eq_true (medT_nd hs x); omega)
  obtain ⟨a1, c1, a2, c2, a3, c3, a4, c4, a5, c5, rfl, hbc⟩ := held_c hl
  have hld := FLF
  obtain ⟨l1, hl1⟩ : ∃ x, x = l.box.length := ⟨_, rfl⟩
  obtain ⟨l2, hl2⟩ : ∃ x, x = l.sign.length := ⟨_, rfl⟩
  obtain ⟨l3, hl3⟩ : ∃ x, x = l.ident.length := ⟨_, rfl⟩
  obtain ⟨l4, hl4⟩ : ∃ x, x = l.par.length := ⟨_, rfl⟩
  obtain ⟨l5, hl5⟩ : ∃ x, x = l.sig.length := ⟨_, rfl⟩
  obtain ⟨s, hsr⟩ : ∃ s, s = l.source := ⟨_, rfl⟩
  rw [← hl1, ← hl2, ← hl3, ← hl4, ← hl5, ← hsr] at hbc ⊢
  rw [← FLF] at hbc
  obtain ⟨ta, n0, rfl, hc, hc2⟩ := h.sl
  obtain ⟨b, off, lb, ee1, rfl, hbl, -, -, -⟩ := h.at (i := 0) (show 0 < t.length by omega)
  have CK := fun (W : World) (hw : Below w.heap.size w W) (j : Nat) (hj : 2 * j < t.length) => (show W.cell? ⟨b, off + 2 * j * 10, none⟩ = some (.int .u8 ((nd t (2 * j)).kind : Nat)) from by
    obtain ⟨b', off', lb', e1', e, -, ck, -⟩ := (h.below hw (Nat.le_refl _)).at hj
    simp only [Option.some.injEq, Addr.mk.injEq, and_true] at e
    obtain ⟨rfl, rfl⟩ := e
    exact ck)
  have RA := fun (W : World) (hw : Below w.heap.size w W) (x : Nat) (hx : x < t.length) => (show ∃ cs, NodeC w (nd t x) cs ∧ W.rangeAt b (off + x * 10) cs.toList from by
    obtain ⟨b', off', cs, e, hlt, hnc, hra⟩ := h.node hx
    simp only [Option.some.injEq, Addr.mk.injEq, and_true] at e
    obtain ⟨rfl, rfl⟩ := e
    exact ⟨cs, hnc, rangeAt_below hra hw hlt⟩)
  have NDO := fun (x : Nat) (hx : t.length ≤ x) => nd_out (t := t) hx
  obtain ⟨T, hT⟩ : ∃ T, T = nd t := ⟨_, rfl⟩
  rw [← hT] at KB LB CK RA FPL FUN FRE NDO
  obtain ⟨F, hF⟩ : ∃ F, F = addF t l i := ⟨_, rfl⟩
  rw [← hF] at hbc FPL FUN FIN
  obtain ⟨OUTT, hOUT⟩ : ∃ T, T = listT m F := ⟨_, rfl⟩
  rw [← hOUT] at FIN
  rw [← hm, ← hF, ← hOUT]
  obtain ⟨n, hn⟩ : ∃ n, n = t.length := ⟨_, rfl⟩
  rw [← hn] at LVN RA NDO hc hlen CK
  rw [← hn]
  obtain ⟨K, hK⟩ : ∃ K, K = 2 ^ d := ⟨_, rfl⟩
  rw [← hK] at LVN FRE hlen
  have hKi : i ≤ K := by omega
  have hm5 : m ≤ 131071 := by omega
  have hK16 : K ≤ 65536 := by omega
  have hmi : 2 * i < m := by omega
  have hKm : m = n := by omega
  have HLV := Lib.hid LVN
  have HAB := Lib.hid AB
  have HFPL := Lib.hid FPL
  have HFUN := Lib.hid FUN
  have HFRE := Lib.hid FRE
  have HFIN := Lib.hid FIN
  have HKB := Lib.hid KB
  have HLB := Lib.hid LB
  have HBC := Lib.hid hbc
  have HCK := Lib.hid CK
  have HRA0 := Lib.hid RA
  have HNDO := Lib.hid NDO
  have HLEN := Lib.hid hlen
  have HKM := Lib.hid hKm
  clear LVN AB FPL FUN FRE FIN KB LB hbc CK RA NDO hlen hKm FLF hld hn hK hOUT hF hT hl1 hl2 hl3 hl4 hl5 hsr hbl hm hm1 hi1 hNN hmed e2 h17 h1 h2 h hl hs hok hd 
  go_enter Try.func13, Try.ntmps13
  go_wp2_with fail
  have HBK0 := Lib.hid (Blk.new w 25 #[.slice a1 l1 c1, .slice a2 l2 c2, .slice a3 l3 c3, .int .u8 (s : Nat), .slice a4 l4 c4, .slice a5 l5 c5])
  have HB0 := Lib.hid ((Below.refl w.heap.size w).alloc (Nat.le_refl _) (.cells #[.slice a1 l1 c1, .slice a2 l2 c2, .slice a3 l3 c3, .int .u8 (s : Nat), .slice a4 l4 c4, .slice a5 l5 c5] 25))
  generalize hw0 : w.alloc (.cells #[.slice a1 l1 c1, .slice a2 l2 c2, .slice a3 l3 c3, .int .u8 (s : Nat), .slice a4 l4 c4, .slice a5 l5 c5] 25) = w0 at HBK0 HB0 ⊢
  clear hw0
  refine (HLV.out w0 _ _).mono ?_
  rintro e w' ⟨rfl, rfl⟩
  go_wp2_with fail
  go_loopg [7, 8] K (fun q av iv wr => ∃ (a : Nat) (z : Int), z + 1 = (q : Nat) ∧ av = .int .i64 (a : Nat) ∧ iv = .int .i64 z ∧ q ≤ a ∧ a ≤ K ∧ (a < K → (T (2 * a)).kind = 0) ∧ (∀ j, q ≤ j → j < a → (T (2 * j)).kind ≠ 0) ∧ wr = w')
  case atStart => exact ⟨K, (K : Int) - 1, by omega, rfl, by go_num, Nat.le_refl _, Nat.le_refl _, fun h => by omega, fun j h1 h2 => by omega, rfl⟩
  case round =>
    obtain ⟨a, z, hz, rfl, rfl, hqa, haK, ha0, haN, rfl⟩ := hrel
    by_cases hlt : 0 ≤ z
    · obtain ⟨j, rfl⟩ : ∃ j : Nat, z = (j : Int) := ⟨z.toNat, by omega⟩
      have hjg : gk = j + 1 := by omega
      have hj5 : j < K := by omega
      have hge : decide ((j : Int) ≥ 0) = true := decide_eq_true hlt
      have hjn : 2 * (j : Int) < (n : Int) := by have := HLEN.out; omega
      have ck := HCK.out wr HB0.out j (by have := HLEN.out; omega)
      have hkb := HKB.out (2 * j)
      have HA0 := Lib.hid ha0
      have HAN := Lib.hid haN
      obtain ⟨kd, hkd⟩ : ∃ k, k = (T (2 * j)).kind := ⟨_, rfl⟩
      rw [← hkd] at ck hkb
      have HKD := Lib.hid hkd
      have HJG := Lib.hid hjg
      have HQA := Lib.hid hqa
      clear hkd ha0 haN hz hjg hqa
      by_cases hk : kd = 0
      · have hq : ((kd : Int) == 0) = true := by rw [beq_iff_eq]; omega
        have HK0 := Lib.hid hk
        clear hk
        go_wp2_with fail
        go_roundg (gk - 1)
        case measure => have := HJG.out; omega
        case rel =>
          have := HJG.out
          exact ⟨j, (j : Int) - 1, by omega, rfl, by go_num, by omega, by omega, fun _ => by rw [← HKD.out]; exact HK0.out, fun y h1 h2 => by omega, rfl⟩
      · have hq : ((kd : Int) == 0) = false := by rw [beq_eq_false_iff_ne]; omega
        have HK0 := Lib.hid hk
        clear hk
        go_wp2_with fail
        go_roundg (gk - 1)
        case measure => have := HJG.out; omega
        case rel =>
          have := HJG.out
          have := HQA.out
          exact ⟨a, (j : Int) - 1, by omega, rfl, by go_num, by omega, haK, HA0.out, fun y h1 h2 => by
            by_cases e : y = j
            · rw [e, ← HKD.out]; exact HK0.out
            · exact HAN.out y (by omega) h2, rfl⟩
    · have hg0 : gk = 0 := by omega
      obtain rfl : z = -1 := by omega
      obtain rfl : i = a := (HFRE.out a haK ha0 (fun j hj => haN j (by omega) hj)).symm
      clear hlt hz hqa ha0 haN hg0
      have hml := HLEN.out
      have hmk := HKM.out
      have hiN2 : ((i : Int) == (K : Int)) = false := by rw [beq_eq_false_iff_ne]; omega
      have hiN3 : ¬ ((i : Int) = (K : Int)) := by omega
      have hiN4 : ¬ (i = K) := by omega
      go_wp2_with fail
      obtain ⟨g0, rfl⟩ : ∃ g0, g0 = gk := ⟨_, rfl⟩
      obtain ⟨w7, rfl⟩ : ∃ w7, w7 = wr := ⟨_, rfl⟩
      go_loopg [10, 11] m (fun q ov iv wr => ∃ x : Nat, x + q = m ∧ iv = .int .i64 (x : Nat) ∧ TreeN w wr ov x F ∧ Blk wr w.heap.size 25 #[.slice a1 l1 c1, .slice a2 l2 c2, .slice a3 l3 c3, .int .u8 (s : Nat), .slice a4 l4 c4, .slice a5 l5 c5] ∧ Below w.heap.size w wr)
      case atStart => exact ⟨0, by omega, rfl, TreeN.nil _ _ _, HBK0.out, HB0.out⟩
      case round =>
        obtain ⟨x, hx, rfl, htn, hbk, hb⟩ := hrel
        have HX := Lib.hid hx
        have HB := Lib.hid hb
        have HBK := Lib.hid hbk
        obtain ⟨xs, hown, hxl, hnp⟩ := htn
        have HO := Lib.hid hown
        have HXL := Lib.hid hxl
        have HNP := Lib.hid hnp
        have hm5' := hm5
        by_cases hlt : x < m
        · have hlt' : decide (x < m) = true := decide_eq_true hlt
          have hltI : (x : Int) < (n : Int) := by have := HKM.out; omega
          clear hx hown hxl hnp hb hbk
          have hw := HB.out.size
          have hx5 : x ≤ 131071 := by omega
          have hbA := (Below.refl wr.heap.size wr).alloc (Nat.le_refl _) (.cells #[.int .u8 0, .slice none 0 0, .slice none 0 0, .slice none 0 0, .int .u8 0, .slice none 0 0, .slice none 0 0, .slice none 0 0, .slice none 0 0, .slice none 0 0] 45)
          by_cases hxi : x = 2 * i
          · have hxe : ((x : Int) == 2 * (i : Int)) = true := by rw [beq_iff_eq]; omega
            have hxe2 : (x : Int) = 2 * (i : Int) := by omega
            have HNX := Lib.hid (show NodeC w (F x) #[.int .u8 1, .slice a1 l1 c1, .slice a2 l2 c2, .slice a3 l3 c3, .int .u8 (s : Nat), .slice a4 l4 c4, .slice a5 l5 c5, .slice none 0 0, .slice none 0 0, .slice none 0 0] by rw [hxi]; exact HBC.out)
            have hxlN := HLEN.out
            have hxn : x < n := by omega
            have hxnI : (x : Int) < (n : Int) := by omega
            have hxnD : decide ((x : Int) < (n : Int)) = true := decide_eq_true hxnI
            obtain ⟨cs, hcs, hra⟩ := HRA0.out (wr.alloc (.cells #[.int .u8 0, .slice none 0 0, .slice none 0 0, .slice none 0 0, .int .u8 0, .slice none 0 0, .slice none 0 0, .slice none 0 0, .slice none 0 0, .slice none 0 0] 45)) (HB.out.alloc HB.out.size _) x (by omega)
            have HN := Lib.hid hcs
            have hkb := HKB.out x
            have hlb := HLB.out x
            obtain ⟨kd, sd, k1, k2, k3, k4, k5, k6, k7, k8, d1, d2, d3, d4, d5, f1, f2, f3, n1, n2, n3, n4, n5, m1, m2, m3, rfl, hkd, hk8, hrl⟩ := hcs.flat
            rw [← hkd] at hkb
            have HRA := Lib.hid hra
            have HKD := Lib.hid hkd
            have HK8 := Lib.hid hk8
            have HRL := Lib.hid hrl
            have HLB1 := Lib.hid hlb
            clear hcs hra hkd hk8 hrl hlb
            clear hxi hxe2 hxlN
            have HBW := Lib.hid (HB.out.alloc HB.out.size (.cells #[.int .u8 1, .slice a1 l1 c1, .slice a2 l2 c2, .slice a3 l3 c3, .int .u8 (s : Nat), .slice a4 l4 c4, .slice a5 l5 c5, .slice none 0 0, .slice none 0 0, .slice none 0 0] 45))
            have HBKW := Lib.hid (HBK.out.alloc (.cells #[.int .u8 1, .slice a1 l1 c1, .slice a2 l2 c2, .slice a3 l3 c3, .int .u8 (s : Nat), .slice a4 l4 c4, .slice a5 l5 c5, .slice none 0 0, .slice none 0 0, .slice none 0 0] 45))
            have HNPW := Lib.hid (fun j (hj : j < x) => (HNP.out j hj).below ((Below.refl wr.heap.size wr).alloc (Nat.le_refl _) (.cells #[.int .u8 1, .slice a1 l1 c1, .slice a2 l2 c2, .slice a3 l3 c3, .int .u8 (s : Nat), .slice a4 l4 c4, .slice a5 l5 c5, .slice none 0 0, .slice none 0 0, .slice none 0 0] 45)))
            have HONE := Lib.hid (show ∀ u ∈ ([.int .u8 1, .slice a1 l1 c1, .slice a2 l2 c2, .slice a3 l3 c3, .int .u8 (s : Nat), .slice a4 l4 c4, .slice a5 l5 c5, .slice none 0 0, .slice none 0 0, .slice none 0 0] : List Value), u.oneCell' = true from NodeP.one (w0 := w) (W := w) (d := F x) (.inl HNX.out) (Below.refl _ _))
            go_wp2_with (first | (at_builtin; refine wpList_pushG rfl (.tmp 74) (.tmp 76) 22 rfl w.heap.size 45 _ 10 208 treesE _ x _ rfl ((HO.out.alloc (.cells #[.int .u8 1, .slice a1 l1 c1, .slice a2 l2 c2, .slice a3 l3 c3, .int .u8 (s : Nat), .slice a4 l4 c4, .slice a5 l5 c5, .slice none 0 0, .slice none 0 0, .slice none 0 0] 45)).alloc (.cells #[.int .u8 1, .slice a1 l1 c1, .slice a2 l2 c2, .slice a3 l3 c3, .int .u8 (s : Nat), .slice a4 l4 c4, .slice a5 l5 c5, .slice none 0 0, .slice none 0 0, .slice none 0 0] 45)) (wr.heap.size + 1) [.int .u8 1, .slice a1 l1 c1, .slice a2 l2 c2, .slice a3 l3 c3, .int .u8 (s : Nat), .slice a4 l4 c4, .slice a5 l5 c5, .slice none 0 0, .slice none 0 0, .slice none 0 0] rfl rfl ?c1a HONE.out ?c2a ?c3a ?_) | (refine wpList_load_mid rfl 45 (.tmp 51) rfl b (off + x * 10) rfl [.int .u8 (kd : Nat), .slice n1 k1 d1, .slice n2 k2 d2, .slice n3 k3 d3, .int .u8 (sd : Nat), .slice n4 k4 d4, .slice n5 k5 d5, .slice m1 k6 f1, .slice m2 k7 f2, .slice m3 k8 f3] _ HRA.out Try.underlying45 rfl node_info ?_) | (refine wpList_load_at rfl 25 (.tmp 3) rfl w.heap.size rfl 25 #[.slice a1 l1 c1, .slice a2 l2 c2, .slice a3 l3 c3, .int .u8 (s : Nat), .slice a4 l4 c4, .slice a5 l5 c5] (0, 0) _ (HBK.out.alloc _) Try.underlying25 rfl (by kernel_rfl) ?_))
            case c2a => omega
            case c3a => have := HBW.out.size; simp; omega
            rintro v' w3 hown3 hg3 hb3
            have HT1 := Lib.hid (TreeN.snoc (F := F) (w0 := w) ((HO.out.alloc (.cells #[.int .u8 1, .slice a1 l1 c1, .slice a2 l2 c2, .slice a3 l3 c3, .int .u8 (s : Nat), .slice a4 l4 c4, .slice a5 l5 c5, .slice none 0 0, .slice none 0 0, .slice none 0 0] 45)).alloc (.cells #[.int .u8 1, .slice a1 l1 c1, .slice a2 l2 c2, .slice a3 l3 c3, .int .u8 (s : Nat), .slice a4 l4 c4, .slice a5 l5 c5, .slice none 0 0, .slice none 0 0, .slice none 0 0] 45)) HXL.out (fun j hj => ((HNPW.out j hj).below ((Below.refl _ _).alloc (Nat.le_refl _) _))) (ys := [.int .u8 1, .slice a1 l1 c1, .slice a2 l2 c2, .slice a3 l3 c3, .int .u8 (s : Nat), .slice a4 l4 c4, .slice a5 l5 c5, .slice none 0 0, .slice none 0 0, .slice none 0 0]) rfl (.inl HNX.out) hown3 hg3)
            have hbw := (HBW.out.alloc HBW.out.size (.cells #[.int .u8 1, .slice a1 l1 c1, .slice a2 l2 c2, .slice a3 l3 c3, .int .u8 (s : Nat), .slice a4 l4 c4, .slice a5 l5 c5, .slice none 0 0, .slice none 0 0, .slice none 0 0] 45))
            have HB1 := Lib.hid (hbw.trans hb3)
            have HBK1 := Lib.hid (show Blk w3 w.heap.size 25 #[.slice a1 l1 c1, .slice a2 l2 c2, .slice a3 l3 c3, .int .u8 (s : Nat), .slice a4 l4 c4, .slice a5 l5 c5] from (hg3.block w.heap.size (HBKW.out.alloc (.cells #[.int .u8 1, .slice a1 l1 c1, .slice a2 l2 c2, .slice a3 l3 c3, .int .u8 (s : Nat), .slice a4 l4 c4, .slice a5 l5 c5, .slice none 0 0, .slice none 0 0, .slice none 0 0] 45)).lt (OwnK.neBlk ((HO.out.alloc (.cells #[.int .u8 1, .slice a1 l1 c1, .slice a2 l2 c2, .slice a3 l3 c3, .int .u8 (s : Nat), .slice a4 l4 c4, .slice a5 l5 c5, .slice none 0 0, .slice none 0 0, .slice none 0 0] 45)).alloc (.cells #[.int .u8 1, .slice a1 l1 c1, .slice a2 l2 c2, .slice a3 l3 c3, .int .u8 (s : Nat), .slice a4 l4 c4, .slice a5 l5 c5, .slice none 0 0, .slice none 0 0, .slice none 0 0] 45)) (HBKW.out.alloc (.cells #[.int .u8 1, .slice a1 l1 c1, .slice a2 l2 c2, .slice a3 l3 c3, .int .u8 (s : Nat), .slice a4 l4 c4, .slice a5 l5 c5, .slice none 0 0, .slice none 0 0, .slice none 0 0] 45)) (by decide))).trans (HBKW.out.alloc (.cells #[.int .u8 1, .slice a1 l1 c1, .slice a2 l2 c2, .slice a3 l3 c3, .int .u8 (s : Nat), .slice a4 l4 c4, .slice a5 l5 c5, .slice none 0 0, .slice none 0 0, .slice none 0 0] 45)))
            clear hown3 hg3 hb3 hbw
            go_wp2_with fail
            go_roundg (gk - 1)
            case measure => have := HX.out; omega
            case rel => exact ⟨x + 1, by have := HX.out; omega, by go_num, HT1.out, HBK1.out, HB1.out⟩
          · have hxe : ((x : Int) == 2 * (i : Int)) = false := by rw [beq_eq_false_iff_ne]; omega
            have hxe2 : ¬ ((x : Int) = 2 * (i : Int)) := by omega
            have HXI := Lib.hid hxi
            clear hxi
            have hxlN := HLEN.out
            have hmkN := HKM.out
            have hxn : x < n := by omega
            have hxnI : (x : Int) < (n : Int) := by omega
            have hxnD : decide ((x : Int) < (n : Int)) = true := decide_eq_true hxnI
            obtain ⟨cs, hcs, hra⟩ := HRA0.out (wr.alloc (.cells #[.int .u8 0, .slice none 0 0, .slice none 0 0, .slice none 0 0, .int .u8 0, .slice none 0 0, .slice none 0 0, .slice none 0 0, .slice none 0 0, .slice none 0 0] 45)) (HB.out.alloc HB.out.size _) x (by omega)
            have HN := Lib.hid hcs
            have hkb := HKB.out x
            have hlb := HLB.out x
            obtain ⟨kd, sd, k1, k2, k3, k4, k5, k6, k7, k8, d1, d2, d3, d4, d5, f1, f2, f3, n1, n2, n3, n4, n5, m1, m2, m3, rfl, hkd, hk8, hrl⟩ := hcs.flat
            rw [← hkd] at hkb
            have HRA := Lib.hid hra
            have HKD := Lib.hid hkd
            have HK8 := Lib.hid hk8
            have HRL := Lib.hid hrl
            have HLB1 := Lib.hid hlb
            clear hcs hra hkd hk8 hrl hlb
            by_cases hk2 : kd = 2
            · have hq : ((kd : Int) == 2) = true := by rw [beq_iff_eq]; omega
              have HFU := Lib.hid (HFUN.out x hlt HXI.out (by rw [← HKD.out]; exact hk2))
              clear hk2
              have AB := fun (W : World) => HAB.out x W
              simp only [decide_eq_true HXI.out, Bool.true_and] at AB
              obtain ⟨U, hU⟩ : ∃ U, U = undZ (2 * (i : Int)) (x : Int) := ⟨_, rfl⟩
              rw [← hU] at HFU
              simp only [← hU] at AB
              have HAB1 := Lib.hid AB
              have HN2 := Lib.hid (HN.out)
              clear AB hU
              have HBWA := Lib.hid (HB.out.alloc HB.out.size (.cells #[.int .u8 (kd : Nat), .slice n1 k1 d1, .slice n2 k2 d2, .slice n3 k3 d3, .int .u8 (sd : Nat), .slice n4 k4 d4, .slice n5 k5 d5, .slice m1 k6 f1, .slice m2 k7 f2, .slice m3 k8 f3] 45))
              have HBKWA := Lib.hid (HBK.out.alloc (.cells #[.int .u8 (kd : Nat), .slice n1 k1 d1, .slice n2 k2 d2, .slice n3 k3 d3, .int .u8 (sd : Nat), .slice n4 k4 d4, .slice n5 k5 d5, .slice m1 k6 f1, .slice m2 k7 f2, .slice m3 k8 f3] 45))
              have HNPWA := Lib.hid (fun j (hj : j < x) => (HNP.out j hj).below ((Below.refl wr.heap.size wr).alloc (Nat.le_refl _) (.cells #[.int .u8 (kd : Nat), .slice n1 k1 d1, .slice n2 k2 d2, .slice n3 k3 d3, .int .u8 (sd : Nat), .slice n4 k4 d4, .slice n5 k5 d5, .slice m1 k6 f1, .slice m2 k7 f2, .slice m3 k8 f3] 45)))
              have HYBA := Lib.hid (Blk.new wr 45 #[.int .u8 (kd : Nat), .slice n1 k1 d1, .slice n2 k2 d2, .slice n3 k3 d3, .int .u8 (sd : Nat), .slice n4 k4 d4, .slice n5 k5 d5, .slice m1 k6 f1, .slice m2 k7 f2, .slice m3 k8 f3])
              go_wp2_with (first | (refine wpList_load_mid rfl 45 (.tmp 51) rfl b (off + x * 10) rfl [.int .u8 (kd : Nat), .slice n1 k1 d1, .slice n2 k2 d2, .slice n3 k3 d3, .int .u8 (sd : Nat), .slice n4 k4 d4, .slice n5 k5 d5, .slice m1 k6 f1, .slice m2 k7 f2, .slice m3 k8 f3] _ HRA.out Try.underlying45 rfl node_info ?_))
              refine (HAB1.out _).mono ?_
              rintro e w2 ⟨rfl, hb2⟩
              have HBW := Lib.hid (HBWA.out.trans (hb2.mono (Nat.le_trans HB.out.size (by simp))))
              have HBKW := Lib.hid (HBKWA.out.below hb2 HBKWA.out.lt)
              have HNPW := Lib.hid (fun j (hj : j < x) => (HNPWA.out j hj).below hb2)
              have HYB := Lib.hid (HYBA.out.below hb2 HYBA.out.lt)
              have HO2 := Lib.hid ((HO.out.alloc (.cells #[.int .u8 (kd : Nat), .slice n1 k1 d1, .slice n2 k2 d2, .slice n3 k3 d3, .int .u8 (sd : Nat), .slice n4 k4 d4, .slice n5 k5 d5, .slice m1 k6 f1, .slice m2 k7 f2, .slice m3 k8 f3] 45)).below hb2 (Nat.le_refl _))
              have HONE := Lib.hid (show ∀ u ∈ ([.int .u8 (kd : Nat), .slice n1 k1 d1, .slice n2 k2 d2, .slice n3 k3 d3, .int .u8 (sd : Nat), .slice n4 k4 d4, .slice n5 k5 d5, .slice m1 k6 f1, .slice m2 k7 f2, .slice m3 k8 f3] : List Value), u.oneCell' = true from NodeP.one (w0 := w) (W := w) (d := T x) (.inl HN2.out) (Below.refl _ _))
              have hw2 := HBW.out.size
              clear hb2
              cases U with
              | false =>
                have HNX := Lib.hid (show NodeC w (F x) #[.int .u8 (kd : Nat), .slice n1 k1 d1, .slice n2 k2 d2, .slice n3 k3 d3, .int .u8 (sd : Nat), .slice n4 k4 d4, .slice n5 k5 d5, .slice m1 k6 f1, .slice m2 k7 f2, .slice m3 k8 f3] by rw [HFU.out, if_neg (by decide)]; exact HN2.out)
                go_wp2_with (first | (at_builtin; refine wpList_pushG rfl (.tmp 74) (.tmp 76) 22 rfl w.heap.size 45 _ 10 208 treesE _ x _ rfl (HO2.out.alloc (.cells #[.int .u8 (kd : Nat), .slice n1 k1 d1, .slice n2 k2 d2, .slice n3 k3 d3, .int .u8 (sd : Nat), .slice n4 k4 d4, .slice n5 k5 d5, .slice m1 k6 f1, .slice m2 k7 f2, .slice m3 k8 f3] 45)) w2.heap.size [.int .u8 (kd : Nat), .slice n1 k1 d1, .slice n2 k2 d2, .slice n3 k3 d3, .int .u8 (sd : Nat), .slice n4 k4 d4, .slice n5 k5 d5, .slice m1 k6 f1, .slice m2 k7 f2, .slice m3 k8 f3] rfl rfl ?c1d HONE.out ?c2d ?c3d ?_) | (refine wpList_load_at rfl 45 (.tmp 12) rfl wr.heap.size rfl 45 #[.int .u8 (kd : Nat), .slice n1 k1 d1, .slice n2 k2 d2, .slice n3 k3 d3, .int .u8 (sd : Nat), .slice n4 k4 d4, .slice n5 k5 d5, .slice m1 k6 f1, .slice m2 k7 f2, .slice m3 k8 f3] (0, 0) _ HYB.out Try.underlying45 rfl (by kernel_rfl) ?_))
                case c1d => exact cells_new (cs := [.int .u8 (kd : Nat), .slice n1 k1 d1, .slice n2 k2 d2, .slice n3 k3 d3, .int .u8 (sd : Nat), .slice n4 k4 d4, .slice n5 k5 d5, .slice m1 k6 f1, .slice m2 k7 f2, .slice m3 k8 f3]) rfl
                case c2d => omega
                case c3d => have := HBW.out.size; simp; omega
                rintro v' w3 hown3 hg3 hb3
                have HT1 := Lib.hid (TreeN.snoc (F := F) (w0 := w) (HO2.out.alloc (.cells #[.int .u8 (kd : Nat), .slice n1 k1 d1, .slice n2 k2 d2, .slice n3 k3 d3, .int .u8 (sd : Nat), .slice n4 k4 d4, .slice n5 k5 d5, .slice m1 k6 f1, .slice m2 k7 f2, .slice m3 k8 f3] 45)) HXL.out (fun j hj => ((HNPW.out j hj).below ((Below.refl _ _).alloc (Nat.le_refl _) _))) (ys := [.int .u8 (kd : Nat), .slice n1 k1 d1, .slice n2 k2 d2, .slice n3 k3 d3, .int .u8 (sd : Nat), .slice n4 k4 d4, .slice n5 k5 d5, .slice m1 k6 f1, .slice m2 k7 f2, .slice m3 k8 f3]) rfl (.inl HNX.out) hown3 hg3)
                have hbw := (HBW.out.alloc HBW.out.size (.cells #[.int .u8 (kd : Nat), .slice n1 k1 d1, .slice n2 k2 d2, .slice n3 k3 d3, .int .u8 (sd : Nat), .slice n4 k4 d4, .slice n5 k5 d5, .slice m1 k6 f1, .slice m2 k7 f2, .slice m3 k8 f3] 45))
                have HB1 := Lib.hid (hbw.trans hb3)
                have HBK1 := Lib.hid (show Blk w3 w.heap.size 25 #[.slice a1 l1 c1, .slice a2 l2 c2, .slice a3 l3 c3, .int .u8 (s : Nat), .slice a4 l4 c4, .slice a5 l5 c5] from (hg3.block w.heap.size (HBKW.out.alloc (.cells #[.int .u8 (kd : Nat), .slice n1 k1 d1, .slice n2 k2 d2, .slice n3 k3 d3, .int .u8 (sd : Nat), .slice n4 k4 d4, .slice n5 k5 d5, .slice m1 k6 f1, .slice m2 k7 f2, .slice m3 k8 f3] 45)).lt (OwnK.neBlk (HO2.out.alloc (.cells #[.int .u8 (kd : Nat), .slice n1 k1 d1, .slice n2 k2 d2, .slice n3 k3 d3, .int .u8 (sd : Nat), .slice n4 k4 d4, .slice n5 k5 d5, .slice m1 k6 f1, .slice m2 k7 f2, .slice m3 k8 f3] 45)) (HBKW.out.alloc (.cells #[.int .u8 (kd : Nat), .slice n1 k1 d1, .slice n2 k2 d2, .slice n3 k3 d3, .int .u8 (sd : Nat), .slice n4 k4 d4, .slice n5 k5 d5, .slice m1 k6 f1, .slice m2 k7 f2, .slice m3 k8 f3] 45)) (by decide))).trans (HBKW.out.alloc (.cells #[.int .u8 (kd : Nat), .slice n1 k1 d1, .slice n2 k2 d2, .slice n3 k3 d3, .int .u8 (sd : Nat), .slice n4 k4 d4, .slice n5 k5 d5, .slice m1 k6 f1, .slice m2 k7 f2, .slice m3 k8 f3] 45)))
                clear hown3 hg3 hb3 hbw
                go_wp2_with fail
                go_roundg (gk - 1)
                case measure => have := HX.out; omega
                case rel => exact ⟨x + 1, by have := HX.out; omega, by go_num, HT1.out, HBK1.out, HB1.out⟩
              | true =>
                have HFX := Lib.hid (show F x = withLate (T x) (insL (T x).par.late (i : Nat)) by rw [HFU.out, if_pos rfl]; rfl)
                have HPU := Lib.hid (tput_any (.slice m3 k8 f3) (T x).par.late (i : Nat) w2 (HRL.out.below HBW.out (Nat.le_refl _)) (by have := HLB1.out; omega))
                have c9 : w2.cell? ⟨wr.heap.size, 9, none⟩ = some (.slice m3 k8 f3) := (HYB.out.cell 9).trans rfl
                go_wp2_with fail
                refine (HPU.out).mono ?_
                rintro e w3 ⟨V, rfl, hov, hb3⟩
                have hyb3 := HYB.out.below hb3 HYB.out.lt
                have hov1 := hov.mono HBW.out.size
                have hne := hov1.ne_blk hyb3 (by decide)
                have hov4 := hov1.setOther (a := ⟨wr.heap.size, 9, none⟩) hne V
                have hyb4 := hyb3.set 9 V
                have hb4 := HBW.out.trans (hb3.mono HBW.out.size)
                have hgs := grownBy_setCells (w := w3) (g := wr.heap.size) [V] 9
                have hb5 : Below w.heap.size w (w3.setCell ⟨wr.heap.size, 9, none⟩ V) := hb4.grown hgs hb4.size (fun k hk => by simp only [Option.some.injEq] at hk; omega)
                have hbk5 : Blk (w3.setCell ⟨wr.heap.size, 9, none⟩ V) w.heap.size 25 #[.slice a1 l1 c1, .slice a2 l2 c2, .slice a3 l3 c3, .int .u8 (s : Nat), .slice a4 l4 c4, .slice a5 l5 c5] := (HBKW.out.below hb3 HBKW.out.lt).far (p := ⟨wr.heap.size, 9, none⟩) (by have := HBK.out.lt; simp only; omega) V
                have hnp5 := fun j (hj : j < x) => ((HNPW.out j hj).below hb3).set (k := 9) (u := V) hyb3
                have ho5 : OwnK (w3.setCell ⟨wr.heap.size, 9, none⟩ V) w.heap.size 45 10 _ x xs := World.ownsRow.kept (HO2.out.below hb3 (Nat.le_refl _)) hgs (.inr (fun e => by
                  have := (World.ownsRow.lt HO.out _ e).2
                  omega))
                have hnx5 : NodeP w (w3.setCell ⟨wr.heap.size, 9, none⟩ V) (F x) (#[.int .u8 (kd : Nat), .slice n1 k1 d1, .slice n2 k2 d2, .slice n3 k3 d3, .int .u8 (sd : Nat), .slice n4 k4 d4, .slice n5 k5 d5, .slice m1 k6 f1, .slice m2 k7 f2, .slice m3 k8 f3].setIfInBounds 9 V) := .inr ⟨T x, _, V, _, HN2.out, hov4, HFX.out, rfl⟩
                have hone5 := hnx5.one hb5
                have hd1 : w3.cell? ⟨wr.heap.size, 9, none⟩ = some (.slice m3 k8 f3) := (hyb3.cell 9).trans rfl
                have hd2 : w3.frozen? ⟨wr.heap.size, 9, none⟩ = false := hyb3.frozen 9
                obtain ⟨q1, q2, q3, rfl⟩ := slOf hov1
                have HYB5 := Lib.hid (show Blk (w3.setCell ⟨wr.heap.size, 9, none⟩ (.slice q1 q2 q3)) wr.heap.size 45 #[.int .u8 (kd : Nat), .slice n1 k1 d1, .slice n2 k2 d2, .slice n3 k3 d3, .int .u8 (sd : Nat), .slice n4 k4 d4, .slice n5 k5 d5, .slice m1 k6 f1, .slice m2 k7 f2, .slice q1 q2 q3] from hyb4)
                have HBW5 := Lib.hid hb5
                have HBKW5 := Lib.hid hbk5
                have HNPW5 := Lib.hid hnp5
                have HO5 := Lib.hid ho5
                have HNX := Lib.hid (show NodeP w (w3.setCell ⟨wr.heap.size, 9, none⟩ (.slice q1 q2 q3)) (F x) #[.int .u8 (kd : Nat), .slice n1 k1 d1, .slice n2 k2 d2, .slice n3 k3 d3, .int .u8 (sd : Nat), .slice n4 k4 d4, .slice n5 k5 d5, .slice m1 k6 f1, .slice m2 k7 f2, .slice q1 q2 q3] from hnx5)
                have HONE5 := Lib.hid (show ∀ u ∈ ([.int .u8 (kd : Nat), .slice n1 k1 d1, .slice n2 k2 d2, .slice n3 k3 d3, .int .u8 (sd : Nat), .slice n4 k4 d4, .slice n5 k5 d5, .slice m1 k6 f1, .slice m2 k7 f2, .slice q1 q2 q3] : List Value), u.oneCell' = true from hone5)
                have hw5 := hb5.size
                obtain ⟨w5, hw5e⟩ : ∃ W, W = w3.setCell ⟨wr.heap.size, 9, none⟩ (.slice q1 q2 q3) := ⟨_, rfl⟩
                rw [← hw5e] at HYB5 HBW5 HBKW5 HNPW5 HO5 HNX hw5
                have HW5 := Lib.hid hw5e
                clear hyb3 hov hov1 hne hov4 hyb4 hb4 hgs hb5 hbk5 hnp5 ho5 hnx5 hone5 hb3 hw5e HBW HBKW HNPW HO2 HONE HYB c9
                go_wp2_with (first | (at_builtin; refine wpList_pushG rfl (.tmp 74) (.tmp 76) 22 rfl w.heap.size 45 _ 10 208 treesE _ x _ rfl (HO5.out.alloc (.cells #[.int .u8 (kd : Nat), .slice n1 k1 d1, .slice n2 k2 d2, .slice n3 k3 d3, .int .u8 (sd : Nat), .slice n4 k4 d4, .slice n5 k5 d5, .slice m1 k6 f1, .slice m2 k7 f2, .slice q1 q2 q3] 45)) w5.heap.size [.int .u8 (kd : Nat), .slice n1 k1 d1, .slice n2 k2 d2, .slice n3 k3 d3, .int .u8 (sd : Nat), .slice n4 k4 d4, .slice n5 k5 d5, .slice m1 k6 f1, .slice m2 k7 f2, .slice q1 q2 q3] rfl rfl ?c1e HONE5.out ?c2e ?c3e ?_) | (rw [← HW5.out]; refine wpList_load_at rfl 45 (.tmp 12) rfl wr.heap.size rfl 45 #[.int .u8 (kd : Nat), .slice n1 k1 d1, .slice n2 k2 d2, .slice n3 k3 d3, .int .u8 (sd : Nat), .slice n4 k4 d4, .slice n5 k5 d5, .slice m1 k6 f1, .slice m2 k7 f2, .slice q1 q2 q3] (0, 0) _ HYB5.out Try.underlying45 rfl (by kernel_rfl) ?_))
                case c1e => exact cells_new (cs := [.int .u8 (kd : Nat), .slice n1 k1 d1, .slice n2 k2 d2, .slice n3 k3 d3, .int .u8 (sd : Nat), .slice n4 k4 d4, .slice n5 k5 d5, .slice m1 k6 f1, .slice m2 k7 f2, .slice q1 q2 q3]) rfl
                case c2e => omega
                case c3e => have := HBW5.out.size; simp; omega
                rintro v' w3 hown3 hg3 hb3
                have HT1 := Lib.hid (TreeN.snoc (F := F) (w0 := w) (HO5.out.alloc (.cells #[.int .u8 (kd : Nat), .slice n1 k1 d1, .slice n2 k2 d2, .slice n3 k3 d3, .int .u8 (sd : Nat), .slice n4 k4 d4, .slice n5 k5 d5, .slice m1 k6 f1, .slice m2 k7 f2, .slice q1 q2 q3] 45)) HXL.out (fun j hj => ((HNPW5.out j hj).below ((Below.refl _ _).alloc (Nat.le_refl _) _))) (ys := [.int .u8 (kd : Nat), .slice n1 k1 d1, .slice n2 k2 d2, .slice n3 k3 d3, .int .u8 (sd : Nat), .slice n4 k4 d4, .slice n5 k5 d5, .slice m1 k6 f1, .slice m2 k7 f2, .slice q1 q2 q3]) rfl (HNX.out.below ((Below.refl _ _).alloc (Nat.le_refl _) _)) hown3 hg3)
                have hbw := (HBW5.out.alloc HBW5.out.size (.cells #[.int .u8 (kd : Nat), .slice n1 k1 d1, .slice n2 k2 d2, .slice n3 k3 d3, .int .u8 (sd : Nat), .slice n4 k4 d4, .slice n5 k5 d5, .slice m1 k6 f1, .slice m2 k7 f2, .slice q1 q2 q3] 45))
                have HB1 := Lib.hid (hbw.trans hb3)
                have HBK1 := Lib.hid (show Blk w3 w.heap.size 25 #[.slice a1 l1 c1, .slice a2 l2 c2, .slice a3 l3 c3, .int .u8 (s : Nat), .slice a4 l4 c4, .slice a5 l5 c5] from (hg3.block w.heap.size (HBKW5.out.alloc (.cells #[.int .u8 (kd : Nat), .slice n1 k1 d1, .slice n2 k2 d2, .slice n3 k3 d3, .int .u8 (sd : Nat), .slice n4 k4 d4, .slice n5 k5 d5, .slice m1 k6 f1, .slice m2 k7 f2, .slice q1 q2 q3] 45)).lt (OwnK.neBlk (HO5.out.alloc (.cells #[.int .u8 (kd : Nat), .slice n1 k1 d1, .slice n2 k2 d2, .slice n3 k3 d3, .int .u8 (sd : Nat), .slice n4 k4 d4, .slice n5 k5 d5, .slice m1 k6 f1, .slice m2 k7 f2, .slice q1 q2 q3] 45)) (HBKW5.out.alloc (.cells #[.int .u8 (kd : Nat), .slice n1 k1 d1, .slice n2 k2 d2, .slice n3 k3 d3, .int .u8 (sd : Nat), .slice n4 k4 d4, .slice n5 k5 d5, .slice m1 k6 f1, .slice m2 k7 f2, .slice q1 q2 q3] 45)) (by decide))).trans (HBKW5.out.alloc (.cells #[.int .u8 (kd : Nat), .slice n1 k1 d1, .slice n2 k2 d2, .slice n3 k3 d3, .int .u8 (sd : Nat), .slice n4 k4 d4, .slice n5 k5 d5, .slice m1 k6 f1, .slice m2 k7 f2, .slice q1 q2 q3] 45)))
                clear hown3 hg3 hb3 hbw
                go_wp2_with fail
                go_roundg (gk - 1)
                case measure => have := HX.out; omega
                case rel => exact ⟨x + 1, by have := HX.out; omega, by go_num, HT1.out, HBK1.out, HB1.out⟩
            · have hq : ((kd : Int) == 2) = false := by rw [beq_eq_false_iff_ne]; omega
              have HNX := Lib.hid (show NodeC w (F x) #[.int .u8 (kd : Nat), .slice n1 k1 d1, .slice n2 k2 d2, .slice n3 k3 d3, .int .u8 (sd : Nat), .slice n4 k4 d4, .slice n5 k5 d5, .slice m1 k6 f1, .slice m2 k7 f2, .slice m3 k8 f3] by rw [HFPL.out x HXI.out (by rw [← HKD.out]; exact hk2)]; exact HN.out)
              clear hk2
              have HBW := Lib.hid (HB.out.alloc HB.out.size (.cells #[.int .u8 (kd : Nat), .slice n1 k1 d1, .slice n2 k2 d2, .slice n3 k3 d3, .int .u8 (sd : Nat), .slice n4 k4 d4, .slice n5 k5 d5, .slice m1 k6 f1, .slice m2 k7 f2, .slice m3 k8 f3] 45))
              have HBKW := Lib.hid (HBK.out.alloc (.cells #[.int .u8 (kd : Nat), .slice n1 k1 d1, .slice n2 k2 d2, .slice n3 k3 d3, .int .u8 (sd : Nat), .slice n4 k4 d4, .slice n5 k5 d5, .slice m1 k6 f1, .slice m2 k7 f2, .slice m3 k8 f3] 45))
              have HNPW := Lib.hid (fun j (hj : j < x) => (HNP.out j hj).below ((Below.refl wr.heap.size wr).alloc (Nat.le_refl _) (.cells #[.int .u8 (kd : Nat), .slice n1 k1 d1, .slice n2 k2 d2, .slice n3 k3 d3, .int .u8 (sd : Nat), .slice n4 k4 d4, .slice n5 k5 d5, .slice m1 k6 f1, .slice m2 k7 f2, .slice m3 k8 f3] 45)))
              have HONE := Lib.hid (show ∀ u ∈ ([.int .u8 (kd : Nat), .slice n1 k1 d1, .slice n2 k2 d2, .slice n3 k3 d3, .int .u8 (sd : Nat), .slice n4 k4 d4, .slice n5 k5 d5, .slice m1 k6 f1, .slice m2 k7 f2, .slice m3 k8 f3] : List Value), u.oneCell' = true from NodeP.one (w0 := w) (W := w) (d := F x) (.inl HNX.out) (Below.refl _ _))
              go_wp2_with (first | (at_builtin; refine wpList_pushG rfl (.tmp 74) (.tmp 76) 22 rfl w.heap.size 45 _ 10 208 treesE _ x _ rfl ((HO.out.alloc (.cells #[.int .u8 (kd : Nat), .slice n1 k1 d1, .slice n2 k2 d2, .slice n3 k3 d3, .int .u8 (sd : Nat), .slice n4 k4 d4, .slice n5 k5 d5, .slice m1 k6 f1, .slice m2 k7 f2, .slice m3 k8 f3] 45)).alloc (.cells #[.int .u8 (kd : Nat), .slice n1 k1 d1, .slice n2 k2 d2, .slice n3 k3 d3, .int .u8 (sd : Nat), .slice n4 k4 d4, .slice n5 k5 d5, .slice m1 k6 f1, .slice m2 k7 f2, .slice m3 k8 f3] 45)) (wr.heap.size + 1) [.int .u8 (kd : Nat), .slice n1 k1 d1, .slice n2 k2 d2, .slice n3 k3 d3, .int .u8 (sd : Nat), .slice n4 k4 d4, .slice n5 k5 d5, .slice m1 k6 f1, .slice m2 k7 f2, .slice m3 k8 f3] rfl rfl ?c1b HONE.out ?c2b ?c3b ?_) | (refine wpList_load_mid rfl 45 (.tmp 51) rfl b (off + x * 10) rfl [.int .u8 (kd : Nat), .slice n1 k1 d1, .slice n2 k2 d2, .slice n3 k3 d3, .int .u8 (sd : Nat), .slice n4 k4 d4, .slice n5 k5 d5, .slice m1 k6 f1, .slice m2 k7 f2, .slice m3 k8 f3] _ HRA.out Try.underlying45 rfl node_info ?_))
              case c2b => omega
              case c3b => have := HBW.out.size; simp; omega
              rintro v' w3 hown3 hg3 hb3
              have HT1 := Lib.hid (TreeN.snoc (F := F) (w0 := w) ((HO.out.alloc (.cells #[.int .u8 (kd : Nat), .slice n1 k1 d1, .slice n2 k2 d2, .slice n3 k3 d3, .int .u8 (sd : Nat), .slice n4 k4 d4, .slice n5 k5 d5, .slice m1 k6 f1, .slice m2 k7 f2, .slice m3 k8 f3] 45)).alloc (.cells #[.int .u8 (kd : Nat), .slice n1 k1 d1, .slice n2 k2 d2, .slice n3 k3 d3, .int .u8 (sd : Nat), .slice n4 k4 d4, .slice n5 k5 d5, .slice m1 k6 f1, .slice m2 k7 f2, .slice m3 k8 f3] 45)) HXL.out (fun j hj => ((HNPW.out j hj).below ((Below.refl _ _).alloc (Nat.le_refl _) _))) (ys := [.int .u8 (kd : Nat), .slice n1 k1 d1, .slice n2 k2 d2, .slice n3 k3 d3, .int .u8 (sd : Nat), .slice n4 k4 d4, .slice n5 k5 d5, .slice m1 k6 f1, .slice m2 k7 f2, .slice m3 k8 f3]) rfl (.inl HNX.out) hown3 hg3)
              have hbw := (HBW.out.alloc HBW.out.size (.cells #[.int .u8 (kd : Nat), .slice n1 k1 d1, .slice n2 k2 d2, .slice n3 k3 d3, .int .u8 (sd : Nat), .slice n4 k4 d4, .slice n5 k5 d5, .slice m1 k6 f1, .slice m2 k7 f2, .slice m3 k8 f3] 45))
              have HB1 := Lib.hid (hbw.trans hb3)
              have HBK1 := Lib.hid (show Blk w3 w.heap.size 25 #[.slice a1 l1 c1, .slice a2 l2 c2, .slice a3 l3 c3, .int .u8 (s : Nat), .slice a4 l4 c4, .slice a5 l5 c5] from (hg3.block w.heap.size (HBKW.out.alloc (.cells #[.int .u8 (kd : Nat), .slice n1 k1 d1, .slice n2 k2 d2, .slice n3 k3 d3, .int .u8 (sd : Nat), .slice n4 k4 d4, .slice n5 k5 d5, .slice m1 k6 f1, .slice m2 k7 f2, .slice m3 k8 f3] 45)).lt (OwnK.neBlk ((HO.out.alloc (.cells #[.int .u8 (kd : Nat), .slice n1 k1 d1, .slice n2 k2 d2, .slice n3 k3 d3, .int .u8 (sd : Nat), .slice n4 k4 d4, .slice n5 k5 d5, .slice m1 k6 f1, .slice m2 k7 f2, .slice m3 k8 f3] 45)).alloc (.cells #[.int .u8 (kd : Nat), .slice n1 k1 d1, .slice n2 k2 d2, .slice n3 k3 d3, .int .u8 (sd : Nat), .slice n4 k4 d4, .slice n5 k5 d5, .slice m1 k6 f1, .slice m2 k7 f2, .slice m3 k8 f3] 45)) (HBKW.out.alloc (.cells #[.int .u8 (kd : Nat), .slice n1 k1 d1, .slice n2 k2 d2, .slice n3 k3 d3, .int .u8 (sd : Nat), .slice n4 k4 d4, .slice n5 k5 d5, .slice m1 k6 f1, .slice m2 k7 f2, .slice m3 k8 f3] 45)) (by decide))).trans (HBKW.out.alloc (.cells #[.int .u8 (kd : Nat), .slice n1 k1 d1, .slice n2 k2 d2, .slice n3 k3 d3, .int .u8 (sd : Nat), .slice n4 k4 d4, .slice n5 k5 d5, .slice m1 k6 f1, .slice m2 k7 f2, .slice m3 k8 f3] 45)))
              clear hown3 hg3 hb3 hbw
              go_wp2_with fail
              go_roundg (gk - 1)
              case measure => have := HX.out; omega
              case rel => exact ⟨x + 1, by have := HX.out; omega, by go_num, HT1.out, HBK1.out, HB1.out⟩
        · obtain rfl : x = m := by omega
          have hlt' : decide (x < x) = false := decide_eq_false hlt
          have hltI : ¬ ((x : Int) < (n : Int)) := by have := HKM.out; omega
          have HF := Lib.hid (HFIN.out wr _ ⟨xs, hown, hxl, hnp⟩ hb)
          clear hx hown hxl hnp hb hbk hlt
          go_wp2_with fail
          go_ret2
          exact ⟨_, rfl, HF.out, HB.out⟩
set_option maxRecDepth 100000 in
set_option maxHeartbeats 16000000 in
theorem radd_full (v : Value) (c : Array Value) (t : List NodeD) (l : LeafD) (d : Nat) (w : World) (h : TreeR w v t) (hl : LeafC w l c) (hs : medT t = true) (hok : TreeOk t) (hlen : t.length + 1 = 2 * 2 ^ d) (h1 : ∀ j, j < (2 ^ d) → (nd t (2 * j)).kind ≠ 0) (hd : d ≤ 14) :
    Calls Try.prog 13 #[v, .agg c] w fun e w' => ∃ v', e = .returned (.tuple #[v', .int .i64 ((2 ^ d) : Nat)]) ∧ TreeR w' v' (listT (2 * 2 ^ (d + 1) - 1) (addF t l (2 ^ d))) ∧ Below w.heap.size w w' := by
  obtain ⟨i, hie⟩ : ∃ i, i = 2 ^ d := ⟨_, rfl⟩
  rw [← hie] at h1 ⊢
  have h2 : i < 2 ^ d → (nd t (2 * i)).kind = 0 := fun h => by omega
  have hi : i ≤ 2 ^ d := by omega
  have h17 := two_pow_le (show d + 1 ≤ 16 by omega)
  have e2 : 2 ^ (d + 1) = 2 * 2 ^ d := by rw [Nat.pow_succ]; omega
  have e3 : 2 ^ (d + 1 + 1) = 2 * 2 ^ (d + 1) := by rw [Nat.pow_succ]; omega
  have hmed := medT_len hs
  have hNN : leavesN t.length = 2 ^ d := leavesN_pow (by omega) hlen
  have hi1 : 2 * i + 1 < 2 ^ ((d + 1) + 1) := by omega
  have LVN := fun (W : World) (ta : Option Addr) (c' : Nat) => rleaves_any ta t.length c' W (by omega)
  rw [hNN] at LVN
  obtain ⟨m, hm⟩ : ∃ m, m = 2 * 2 ^ (d + 1) - 1 := ⟨_, rfl⟩
  have hm1 : m + 1 = 2 ^ ((d + 1) + 1) := by omega
  have AB := fun (x : Nat) (W : World) => rabove_any x i W (by omega)
  have FLF := addF_leaf t l i
  have FPL := fun (x : Nat) (hx : x ≠ 2 * i) (h : (nd t x).kind ≠ 2) => addF_plain l hx h
  have FUN := fun (x : Nat) (hx1 : x < m) (hx : x ≠ 2 * i) (h : (nd t x).kind = 2) => addF_und (d := (d + 1)) l (by omega) hi1 (by omega) hx h
  have FRE := fun (a : Nat) (ha : a ≤ 2 ^ d) (h3 : a < 2 ^ d → (nd t (2 * a)).kind = 0) (h4 : ∀ j, j < a → (nd t (2 * j)).kind ≠ 0) => free_of h1 h2 (by omega) ha h3 h4
  have FIN := fun (W : World) (v1 : Value) (h1 : TreeN w W v1 m (addF t l i)) (hb : Below w.heap.size w W) => h1.r hb
  have KB := fun (x : Nat) => (hok.nd x).kind
  have LB := fun (x : Nat) => (show (nd t x).par.late.length ≤ 60 by have := of_decide_eq_true (medT_nd hs x); omega)
  obtain ⟨a1, c1, a2, c2, a3, c3, a4, c4, a5, c5, rfl, hbc⟩ := held_c hl
  have hld := FLF
  obtain ⟨l1, hl1⟩ : ∃ x, x = l.box.length := ⟨_, rfl⟩
  obtain ⟨l2, hl2⟩ : ∃ x, x = l.sign.length := ⟨_, rfl⟩
  obtain ⟨l3, hl3⟩ : ∃ x, x = l.ident.length := ⟨_, rfl⟩
  obtain ⟨l4, hl4⟩ : ∃ x, x = l.par.length := ⟨_, rfl⟩
  obtain ⟨l5, hl5⟩ : ∃ x, x = l.sig.length := ⟨_, rfl⟩
  obtain ⟨s, hsr⟩ : ∃ s, s = l.source := ⟨_, rfl⟩
  rw [← hl1, ← hl2, ← hl3, ← hl4, ← hl5, ← hsr] at hbc ⊢
  rw [← FLF] at hbc
  obtain ⟨ta, n0, rfl, hc, hc2⟩ := h.sl
  obtain ⟨b, off, lb, ee1, rfl, hbl, -, -, -⟩ := h.at (i := 0) (show 0 < t.length by omega)
  have CK := fun (W : World) (hw : Below w.heap.size w W) (j : Nat) (hj : 2 * j < t.length) => (show W.cell? ⟨b, off + 2 * j * 10, none⟩ = some (.int .u8 ((nd t (2 * j)).kind : Nat)) from by
    obtain ⟨b', off', lb', e1', e, -, ck, -⟩ := (h.below hw (Nat.le_refl _)).at hj
    simp only [Option.some.injEq, Addr.mk.injEq, and_true] at e
    obtain ⟨rfl, rfl⟩ := e
    exact ck)
  have RA := fun (W : World) (hw : Below w.heap.size w W) (x : Nat) (hx : x < t.length) => (show ∃ cs, NodeC w (nd t x) cs ∧ W.rangeAt b (off + x * 10) cs.toList from by
    obtain ⟨b', off', cs, e, hlt, hnc, hra⟩ := h.node hx
    simp only [Option.some.injEq, Addr.mk.injEq, and_true] at e
    obtain ⟨rfl, rfl⟩ := e
    exact ⟨cs, hnc, rangeAt_below hra hw hlt⟩)
  have NDO := fun (x : Nat) (hx : t.length ≤ x) => nd_out (t := t) hx
  obtain ⟨T, hT⟩ : ∃ T, T = nd t := ⟨_, rfl⟩
  rw [← hT] at KB LB CK RA FPL FUN FRE NDO
  obtain ⟨F, hF⟩ : ∃ F, F = addF t l i := ⟨_, rfl⟩
  rw [← hF] at hbc FPL FUN FIN
  obtain ⟨OUTT, hOUT⟩ : ∃ T, T = listT m F := ⟨_, rfl⟩
  rw [← hOUT] at FIN
  rw [← hm, ← hF, ← hOUT]
  obtain ⟨n, hn⟩ : ∃ n, n = t.length := ⟨_, rfl⟩
  rw [← hn] at LVN RA NDO hc hlen CK
  rw [← hn]
  obtain ⟨K, hK⟩ : ∃ K, K = 2 ^ d := ⟨_, rfl⟩
  rw [← hK] at LVN FRE hlen
  have hKi : i ≤ K := by omega
  have hm5 : m ≤ 131071 := by omega
  have hK16 : K ≤ 65536 := by omega
  have hmi : 2 * i < m := by omega
  have hKm : (m : Int) = 4 * (i : Int) - 1 ∧ i = K := by omega
  have HLV := Lib.hid LVN
  have HAB := Lib.hid AB
  have HFPL := Lib.hid FPL
  have HFUN := Lib.hid FUN
  have HFRE := Lib.hid FRE
  have HFIN := Lib.hid FIN
  have HKB := Lib.hid KB
  have HLB := Lib.hid LB
  have HBC := Lib.hid hbc
  have HCK := Lib.hid CK
  have HRA0 := Lib.hid RA
  have HNDO := Lib.hid NDO
  have HLEN := Lib.hid hlen
  have HKM := Lib.hid hKm
  clear LVN AB FPL FUN FRE FIN KB LB hbc CK RA NDO hlen hKm FLF hld hn hK hOUT hF hT hl1 hl2 hl3 hl4 hl5 hsr hbl hm hm1 hi1 hNN hmed e2 e3 h17 h1 h2 h hl hs hok hd hie
  go_enter Try.func13, Try.ntmps13
  go_wp2_with fail
  have HBK0 := Lib.hid (Blk.new w 25 #[.slice a1 l1 c1, .slice a2 l2 c2, .slice a3 l3 c3, .int .u8 (s : Nat), .slice a4 l4 c4, .slice a5 l5 c5])
  have HB0 := Lib.hid ((Below.refl w.heap.size w).alloc (Nat.le_refl _) (.cells #[.slice a1 l1 c1, .slice a2 l2 c2, .slice a3 l3 c3, .int .u8 (s : Nat), .slice a4 l4 c4, .slice a5 l5 c5] 25))
  generalize hw0 : w.alloc (.cells #[.slice a1 l1 c1, .slice a2 l2 c2, .slice a3 l3 c3, .int .u8 (s : Nat), .slice a4 l4 c4, .slice a5 l5 c5] 25) = w0 at HBK0 HB0 ⊢
  clear hw0
  refine (HLV.out w0 _ _).mono ?_
  rintro e w' ⟨rfl, rfl⟩
  go_wp2_with fail
  go_loopg [7, 8] K (fun q av iv wr => ∃ (a : Nat) (z : Int), z + 1 = (q : Nat) ∧ av = .int .i64 (a : Nat) ∧ iv = .int .i64 z ∧ q ≤ a ∧ a ≤ K ∧ (a < K → (T (2 * a)).kind = 0) ∧ (∀ j, q ≤ j → j < a → (T (2 * j)).kind ≠ 0) ∧ wr = w')
  case atStart => exact ⟨K, (K : Int) - 1, by omega, rfl, by go_num, Nat.le_refl _, Nat.le_refl _, fun h => by omega, fun j h1 h2 => by omega, rfl⟩
  case round =>
    obtain ⟨a, z, hz, rfl, rfl, hqa, haK, ha0, haN, rfl⟩ := hrel
    by_cases hlt : 0 ≤ z
    · obtain ⟨j, rfl⟩ : ∃ j : Nat, z = (j : Int) := ⟨z.toNat, by omega⟩
      have hjg : gk = j + 1 := by omega
      have hj5 : j < K := by omega
      have hge : decide ((j : Int) ≥ 0) = true := decide_eq_true hlt
      have hjn : 2 * (j : Int) < (n : Int) := by have := HLEN.out; omega
      have ck := HCK.out wr HB0.out j (by have := HLEN.out; omega)
      have hkb := HKB.out (2 * j)
      have HA0 := Lib.hid ha0
      have HAN := Lib.hid haN
      obtain ⟨kd, hkd⟩ : ∃ k, k = (T (2 * j)).kind := ⟨_, rfl⟩
      rw [← hkd] at ck hkb
      have HKD := Lib.hid hkd
      have HJG := Lib.hid hjg
      have HQA := Lib.hid hqa
      clear hkd ha0 haN hz hjg hqa
      by_cases hk : kd = 0
      · have hq : ((kd : Int) == 0) = true := by rw [beq_iff_eq]; omega
        have HK0 := Lib.hid hk
        clear hk
        go_wp2_with fail
        go_roundg (gk - 1)
        case measure => have := HJG.out; omega
        case rel =>
          have := HJG.out
          exact ⟨j, (j : Int) - 1, by omega, rfl, by go_num, by omega, by omega, fun _ => by rw [← HKD.out]; exact HK0.out, fun y h1 h2 => by omega, rfl⟩
      · have hq : ((kd : Int) == 0) = false := by rw [beq_eq_false_iff_ne]; omega
        have HK0 := Lib.hid hk
        clear hk
        go_wp2_with fail
        go_roundg (gk - 1)
        case measure => have := HJG.out; omega
        case rel =>
          have := HJG.out
          have := HQA.out
          exact ⟨a, (j : Int) - 1, by omega, rfl, by go_num, by omega, haK, HA0.out, fun y h1 h2 => by
            by_cases e : y = j
            · rw [e, ← HKD.out]; exact HK0.out
            · exact HAN.out y (by omega) h2, rfl⟩
    · have hg0 : gk = 0 := by omega
      obtain rfl : z = -1 := by omega
      obtain rfl : i = a := (HFRE.out a haK ha0 (fun j hj => haN j (by omega) hj)).symm
      clear hlt hz hqa ha0 haN hg0
      have hml := HLEN.out
      have hmk := HKM.out
      obtain ⟨hmk, rfl⟩ := hmk
      have hno : ((i : Int) == 65536) = false := by rw [beq_eq_false_iff_ne]; omega
      have hno2 : ¬ ((i : Int) = 65536) := by omega
      go_wp2_with fail
      obtain ⟨g0, rfl⟩ : ∃ g0, g0 = gk := ⟨_, rfl⟩
      obtain ⟨w7, rfl⟩ : ∃ w7, w7 = wr := ⟨_, rfl⟩
      go_loopg [10, 11] m (fun q ov iv wr => ∃ x : Nat, x + q = m ∧ iv = .int .i64 (x : Nat) ∧ TreeN w wr ov x F ∧ Blk wr w.heap.size 25 #[.slice a1 l1 c1, .slice a2 l2 c2, .slice a3 l3 c3, .int .u8 (s : Nat), .slice a4 l4 c4, .slice a5 l5 c5] ∧ Below w.heap.size w wr)
      case atStart => exact ⟨0, by omega, rfl, TreeN.nil _ _ _, HBK0.out, HB0.out⟩
      case round =>
        obtain ⟨x, hx, rfl, htn, hbk, hb⟩ := hrel
        have HX := Lib.hid hx
        have HB := Lib.hid hb
        have HBK := Lib.hid hbk
        obtain ⟨xs, hown, hxl, hnp⟩ := htn
        have HO := Lib.hid hown
        have HXL := Lib.hid hxl
        have HNP := Lib.hid hnp
        have hm5' := hm5
        by_cases hlt : x < m
        · have hlt' : decide (x < m) = true := decide_eq_true hlt
          have hltI : (x : Int) < 4 * (i : Int) - 1 := by have := HKM.out; omega
          clear hx hown hxl hnp hb hbk
          have hw := HB.out.size
          have hx5 : x ≤ 131071 := by omega
          have hbA := (Below.refl wr.heap.size wr).alloc (Nat.le_refl _) (.cells #[.int .u8 0, .slice none 0 0, .slice none 0 0, .slice none 0 0, .int .u8 0, .slice none 0 0, .slice none 0 0, .slice none 0 0, .slice none 0 0, .slice none 0 0] 45)
          by_cases hxi : x = 2 * i
          · have hxe : ((x : Int) == 2 * (i : Int)) = true := by rw [beq_iff_eq]; omega
            have hxe2 : (x : Int) = 2 * (i : Int) := by omega
            have HNX := Lib.hid (show NodeC w (F x) #[.int .u8 1, .slice a1 l1 c1, .slice a2 l2 c2, .slice a3 l3 c3, .int .u8 (s : Nat), .slice a4 l4 c4, .slice a5 l5 c5, .slice none 0 0, .slice none 0 0, .slice none 0 0] by rw [hxi]; exact HBC.out)
            have hxlN := HLEN.out
            have hxn : ¬ (x < n) := by omega
            have hxnI : ¬ ((x : Int) < (n : Int)) := by omega
            have hxnD : decide ((x : Int) < (n : Int)) = false := decide_eq_false hxnI
            clear hxi hxe2 hxlN
            have HBW := Lib.hid (HB.out.alloc HB.out.size (.cells #[.int .u8 1, .slice a1 l1 c1, .slice a2 l2 c2, .slice a3 l3 c3, .int .u8 (s : Nat), .slice a4 l4 c4, .slice a5 l5 c5, .slice none 0 0, .slice none 0 0, .slice none 0 0] 45))
            have HBKW := Lib.hid (HBK.out.alloc (.cells #[.int .u8 1, .slice a1 l1 c1, .slice a2 l2 c2, .slice a3 l3 c3, .int .u8 (s : Nat), .slice a4 l4 c4, .slice a5 l5 c5, .slice none 0 0, .slice none 0 0, .slice none 0 0] 45))
            have HNPW := Lib.hid (fun j (hj : j < x) => (HNP.out j hj).below ((Below.refl wr.heap.size wr).alloc (Nat.le_refl _) (.cells #[.int .u8 1, .slice a1 l1 c1, .slice a2 l2 c2, .slice a3 l3 c3, .int .u8 (s : Nat), .slice a4 l4 c4, .slice a5 l5 c5, .slice none 0 0, .slice none 0 0, .slice none 0 0] 45)))
            have HONE := Lib.hid (show ∀ u ∈ ([.int .u8 1, .slice a1 l1 c1, .slice a2 l2 c2, .slice a3 l3 c3, .int .u8 (s : Nat), .slice a4 l4 c4, .slice a5 l5 c5, .slice none 0 0, .slice none 0 0, .slice none 0 0] : List Value), u.oneCell' = true from NodeP.one (w0 := w) (W := w) (d := F x) (.inl HNX.out) (Below.refl _ _))
            go_wp2_with (first | (at_builtin; refine wpList_pushG rfl (.tmp 74) (.tmp 76) 22 rfl w.heap.size 45 _ 10 208 treesE _ x _ rfl ((HO.out.alloc (.cells #[.int .u8 1, .slice a1 l1 c1, .slice a2 l2 c2, .slice a3 l3 c3, .int .u8 (s : Nat), .slice a4 l4 c4, .slice a5 l5 c5, .slice none 0 0, .slice none 0 0, .slice none 0 0] 45)).alloc (.cells #[.int .u8 1, .slice a1 l1 c1, .slice a2 l2 c2, .slice a3 l3 c3, .int .u8 (s : Nat), .slice a4 l4 c4, .slice a5 l5 c5, .slice none 0 0, .slice none 0 0, .slice none 0 0] 45)) (wr.heap.size + 1) [.int .u8 1, .slice a1 l1 c1, .slice a2 l2 c2, .slice a3 l3 c3, .int .u8 (s : Nat), .slice a4 l4 c4, .slice a5 l5 c5, .slice none 0 0, .slice none 0 0, .slice none 0 0] rfl rfl ?c1a HONE.out ?c2a ?c3a ?_) | (refine wpList_load_at rfl 25 (.tmp 3) rfl w.heap.size rfl 25 #[.slice a1 l1 c1, .slice a2 l2 c2, .slice a3 l3 c3, .int .u8 (s : Nat), .slice a4 l4 c4, .slice a5 l5 c5] (0, 0) _ (HBK.out.alloc _) Try.underlying25 rfl (by kernel_rfl) ?_))
            case c2a => omega
            case c3a => have := HBW.out.size; simp; omega
            rintro v' w3 hown3 hg3 hb3
            have HT1 := Lib.hid (TreeN.snoc (F := F) (w0 := w) ((HO.out.alloc (.cells #[.int .u8 1, .slice a1 l1 c1, .slice a2 l2 c2, .slice a3 l3 c3, .int .u8 (s : Nat), .slice a4 l4 c4, .slice a5 l5 c5, .slice none 0 0, .slice none 0 0, .slice none 0 0] 45)).alloc (.cells #[.int .u8 1, .slice a1 l1 c1, .slice a2 l2 c2, .slice a3 l3 c3, .int .u8 (s : Nat), .slice a4 l4 c4, .slice a5 l5 c5, .slice none 0 0, .slice none 0 0, .slice none 0 0] 45)) HXL.out (fun j hj => ((HNPW.out j hj).below ((Below.refl _ _).alloc (Nat.le_refl _) _))) (ys := [.int .u8 1, .slice a1 l1 c1, .slice a2 l2 c2, .slice a3 l3 c3, .int .u8 (s : Nat), .slice a4 l4 c4, .slice a5 l5 c5, .slice none 0 0, .slice none 0 0, .slice none 0 0]) rfl (.inl HNX.out) hown3 hg3)
            have hbw := (HBW.out.alloc HBW.out.size (.cells #[.int .u8 1, .slice a1 l1 c1, .slice a2 l2 c2, .slice a3 l3 c3, .int .u8 (s : Nat), .slice a4 l4 c4, .slice a5 l5 c5, .slice none 0 0, .slice none 0 0, .slice none 0 0] 45))
            have HB1 := Lib.hid (hbw.trans hb3)
            have HBK1 := Lib.hid (show Blk w3 w.heap.size 25 #[.slice a1 l1 c1, .slice a2 l2 c2, .slice a3 l3 c3, .int .u8 (s : Nat), .slice a4 l4 c4, .slice a5 l5 c5] from (hg3.block w.heap.size (HBKW.out.alloc (.cells #[.int .u8 1, .slice a1 l1 c1, .slice a2 l2 c2, .slice a3 l3 c3, .int .u8 (s : Nat), .slice a4 l4 c4, .slice a5 l5 c5, .slice none 0 0, .slice none 0 0, .slice none 0 0] 45)).lt (OwnK.neBlk ((HO.out.alloc (.cells #[.int .u8 1, .slice a1 l1 c1, .slice a2 l2 c2, .slice a3 l3 c3, .int .u8 (s : Nat), .slice a4 l4 c4, .slice a5 l5 c5, .slice none 0 0, .slice none 0 0, .slice none 0 0] 45)).alloc (.cells #[.int .u8 1, .slice a1 l1 c1, .slice a2 l2 c2, .slice a3 l3 c3, .int .u8 (s : Nat), .slice a4 l4 c4, .slice a5 l5 c5, .slice none 0 0, .slice none 0 0, .slice none 0 0] 45)) (HBKW.out.alloc (.cells #[.int .u8 1, .slice a1 l1 c1, .slice a2 l2 c2, .slice a3 l3 c3, .int .u8 (s : Nat), .slice a4 l4 c4, .slice a5 l5 c5, .slice none 0 0, .slice none 0 0, .slice none 0 0] 45)) (by decide))).trans (HBKW.out.alloc (.cells #[.int .u8 1, .slice a1 l1 c1, .slice a2 l2 c2, .slice a3 l3 c3, .int .u8 (s : Nat), .slice a4 l4 c4, .slice a5 l5 c5, .slice none 0 0, .slice none 0 0, .slice none 0 0] 45)))
            clear hown3 hg3 hb3 hbw
            go_wp2_with fail
            go_roundg (gk - 1)
            case measure => have := HX.out; omega
            case rel => exact ⟨x + 1, by have := HX.out; omega, by go_num, HT1.out, HBK1.out, HB1.out⟩
          · have hxe : ((x : Int) == 2 * (i : Int)) = false := by rw [beq_eq_false_iff_ne]; omega
            have hxe2 : ¬ ((x : Int) = 2 * (i : Int)) := by omega
            have HXI := Lib.hid hxi
            clear hxi
            by_cases hxn0 : x < n
            · have hxn : x < n := by omega
              have hxnI : (x : Int) < (n : Int) := by omega
              have hxnD : decide ((x : Int) < (n : Int)) = true := decide_eq_true hxnI
              obtain ⟨cs, hcs, hra⟩ := HRA0.out (wr.alloc (.cells #[.int .u8 0, .slice none 0 0, .slice none 0 0, .slice none 0 0, .int .u8 0, .slice none 0 0, .slice none 0 0, .slice none 0 0, .slice none 0 0, .slice none 0 0] 45)) (HB.out.alloc HB.out.size _) x (by omega)
              have HN := Lib.hid hcs
              have hkb := HKB.out x
              have hlb := HLB.out x
              obtain ⟨kd, sd, k1, k2, k3, k4, k5, k6, k7, k8, d1, d2, d3, d4, d5, f1, f2, f3, n1, n2, n3, n4, n5, m1, m2, m3, rfl, hkd, hk8, hrl⟩ := hcs.flat
              rw [← hkd] at hkb
              have HRA := Lib.hid hra
              have HKD := Lib.hid hkd
              have HK8 := Lib.hid hk8
              have HRL := Lib.hid hrl
              have HLB1 := Lib.hid hlb
              clear hcs hra hkd hk8 hrl hlb
              by_cases hk2 : kd = 2
              · have hq : ((kd : Int) == 2) = true := by rw [beq_iff_eq]; omega
                have HFU := Lib.hid (HFUN.out x hlt HXI.out (by rw [← HKD.out]; exact hk2))
                clear hk2
                have AB := fun (W : World) => HAB.out x W
                simp only [decide_eq_true HXI.out, Bool.true_and] at AB
                obtain ⟨U, hU⟩ : ∃ U, U = undZ (2 * (i : Int)) (x : Int) := ⟨_, rfl⟩
                rw [← hU] at HFU
                simp only [← hU] at AB
                have HAB1 := Lib.hid AB
                have HN2 := Lib.hid (HN.out)
                clear AB hU
                have HBWA := Lib.hid (HB.out.alloc HB.out.size (.cells #[.int .u8 (kd : Nat), .slice n1 k1 d1, .slice n2 k2 d2, .slice n3 k3 d3, .int .u8 (sd : Nat), .slice n4 k4 d4, .slice n5 k5 d5, .slice m1 k6 f1, .slice m2 k7 f2, .slice m3 k8 f3] 45))
                have HBKWA := Lib.hid (HBK.out.alloc (.cells #[.int .u8 (kd : Nat), .slice n1 k1 d1, .slice n2 k2 d2, .slice n3 k3 d3, .int .u8 (sd : Nat), .slice n4 k4 d4, .slice n5 k5 d5, .slice m1 k6 f1, .slice m2 k7 f2, .slice m3 k8 f3] 45))
                have HNPWA := Lib.hid (fun j (hj : j < x) => (HNP.out j hj).below ((Below.refl wr.heap.size wr).alloc (Nat.le_refl _) (.cells #[.int .u8 (kd : Nat), .slice n1 k1 d1, .slice n2 k2 d2, .slice n3 k3 d3, .int .u8 (sd : Nat), .slice n4 k4 d4, .slice n5 k5 d5, .slice m1 k6 f1, .slice m2 k7 f2, .slice m3 k8 f3] 45)))
                have HYBA := Lib.hid (Blk.new wr 45 #[.int .u8 (kd : Nat), .slice n1 k1 d1, .slice n2 k2 d2, .slice n3 k3 d3, .int .u8 (sd : Nat), .slice n4 k4 d4, .slice n5 k5 d5, .slice m1 k6 f1, .slice m2 k7 f2, .slice m3 k8 f3])
                go_wp2_with (first | (refine wpList_load_mid rfl 45 (.tmp 51) rfl b (off + x * 10) rfl [.int .u8 (kd : Nat), .slice n1 k1 d1, .slice n2 k2 d2, .slice n3 k3 d3, .int .u8 (sd : Nat), .slice n4 k4 d4, .slice n5 k5 d5, .slice m1 k6 f1, .slice m2 k7 f2, .slice m3 k8 f3] _ HRA.out Try.underlying45 rfl node_info ?_))
                refine (HAB1.out _).mono ?_
                rintro e w2 ⟨rfl, hb2⟩
                have HBW := Lib.hid (HBWA.out.trans (hb2.mono (Nat.le_trans HB.out.size (by simp))))
                have HBKW := Lib.hid (HBKWA.out.below hb2 HBKWA.out.lt)
                have HNPW := Lib.hid (fun j (hj : j < x) => (HNPWA.out j hj).below hb2)
                have HYB := Lib.hid (HYBA.out.below hb2 HYBA.out.lt)
                have HO2 := Lib.hid ((HO.out.alloc (.cells #[.int .u8 (kd : Nat), .slice n1 k1 d1, .slice n2 k2 d2, .slice n3 k3 d3, .int .u8 (sd : Nat), .slice n4 k4 d4, .slice n5 k5 d5, .slice m1 k6 f1, .slice m2 k7 f2, .slice m3 k8 f3] 45)).below hb2 (Nat.le_refl _))
                have HONE := Lib.hid (show ∀ u ∈ ([.int .u8 (kd : Nat), .slice n1 k1 d1, .slice n2 k2 d2, .slice n3 k3 d3, .int .u8 (sd : Nat), .slice n4 k4 d4, .slice n5 k5 d5, .slice m1 k6 f1, .slice m2 k7 f2, .slice m3 k8 f3] : List Value), u.oneCell' = true from NodeP.one (w0 := w) (W := w) (d := T x) (.inl HN2.out) (Below.refl _ _))
                have hw2 := HBW.out.size
                clear hb2
                cases U with
                | false =>
                  have HNX := Lib.hid (show NodeC w (F x) #[.int .u8 (kd : Nat), .slice n1 k1 d1, .slice n2 k2 d2, .slice n3 k3 d3, .int .u8 (sd : Nat), .slice n4 k4 d4, .slice n5 k5 d5, .slice m1 k6 f1, .slice m2 k7 f2, .slice m3 k8 f3] by rw [HFU.out, if_neg (by decide)]; exact HN2.out)
                  go_wp2_with (first | (at_builtin; refine wpList_pushG rfl (.tmp 74) (.tmp 76) 22 rfl w.heap.size 45 _ 10 208 treesE _ x _ rfl (HO2.out.alloc (.cells #[.int .u8 (kd : Nat), .slice n1 k1 d1, .slice n2 k2 d2, .slice n3 k3 d3, .int .u8 (sd : Nat), .slice n4 k4 d4, .slice n5 k5 d5, .slice m1 k6 f1, .slice m2 k7 f2, .slice m3 k8 f3] 45)) w2.heap.size [.int .u8 (kd : Nat), .slice n1 k1 d1, .slice n2 k2 d2, .slice n3 k3 d3, .int .u8 (sd : Nat), .slice n4 k4 d4, .slice n5 k5 d5, .slice m1 k6 f1, .slice m2 k7 f2, .slice m3 k8 f3] rfl rfl ?c1d HONE.out ?c2d ?c3d ?_) | (refine wpList_load_at rfl 45 (.tmp 12) rfl wr.heap.size rfl 45 #[.int .u8 (kd : Nat), .slice n1 k1 d1, .slice n2 k2 d2, .slice n3 k3 d3, .int .u8 (sd : Nat), .slice n4 k4 d4, .slice n5 k5 d5, .slice m1 k6 f1, .slice m2 k7 f2, .slice m3 k8 f3] (0, 0) _ HYB.out Try.underlying45 rfl (by kernel_rfl) ?_))
                  case c1d => exact cells_new (cs := [.int .u8 (kd : Nat), .slice n1 k1 d1, .slice n2 k2 d2, .slice n3 k3 d3, .int .u8 (sd : Nat), .slice n4 k4 d4, .slice n5 k5 d5, .slice m1 k6 f1, .slice m2 k7 f2, .slice m3 k8 f3]) rfl
                  case c2d => omega
                  case c3d => have := HBW.out.size; simp; omega
                  rintro v' w3 hown3 hg3 hb3
                  have HT1 := Lib.hid (TreeN.snoc (F := F) (w0 := w) (HO2.out.alloc (.cells #[.int .u8 (kd : Nat), .slice n1 k1 d1, .slice n2 k2 d2, .slice n3 k3 d3, .int .u8 (sd : Nat), .slice n4 k4 d4, .slice n5 k5 d5, .slice m1 k6 f1, .slice m2 k7 f2, .slice m3 k8 f3] 45)) HXL.out (fun j hj => ((HNPW.out j hj).below ((Below.refl _ _).alloc (Nat.le_refl _) _))) (ys := [.int .u8 (kd : Nat), .slice n1 k1 d1, .slice n2 k2 d2, .slice n3 k3 d3, .int .u8 (sd : Nat), .slice n4 k4 d4, .slice n5 k5 d5, .slice m1 k6 f1, .slice m2 k7 f2, .slice m3 k8 f3]) rfl (.inl HNX.out) hown3 hg3)
                  have hbw := (HBW.out.alloc HBW.out.size (.cells #[.int .u8 (kd : Nat), .slice n1 k1 d1, .slice n2 k2 d2, .slice n3 k3 d3, .int .u8 (sd : Nat), .slice n4 k4 d4, .slice n5 k5 d5, .slice m1 k6 f1, .slice m2 k7 f2, .slice m3 k8 f3] 45))
                  have HB1 := Lib.hid (hbw.trans hb3)
                  have HBK1 := Lib.hid (show Blk w3 w.heap.size 25 #[.slice a1 l1 c1, .slice a2 l2 c2, .slice a3 l3 c3, .int .u8 (s : Nat), .slice a4 l4 c4, .slice a5 l5 c5] from (hg3.block w.heap.size (HBKW.out.alloc (.cells #[.int .u8 (kd : Nat), .slice n1 k1 d1, .slice n2 k2 d2, .slice n3 k3 d3, .int .u8 (sd : Nat), .slice n4 k4 d4, .slice n5 k5 d5, .slice m1 k6 f1, .slice m2 k7 f2, .slice m3 k8 f3] 45)).lt (OwnK.neBlk (HO2.out.alloc (.cells #[.int .u8 (kd : Nat), .slice n1 k1 d1, .slice n2 k2 d2, .slice n3 k3 d3, .int .u8 (sd : Nat), .slice n4 k4 d4, .slice n5 k5 d5, .slice m1 k6 f1, .slice m2 k7 f2, .slice m3 k8 f3] 45)) (HBKW.out.alloc (.cells #[.int .u8 (kd : Nat), .slice n1 k1 d1, .slice n2 k2 d2, .slice n3 k3 d3, .int .u8 (sd : Nat), .slice n4 k4 d4, .slice n5 k5 d5, .slice m1 k6 f1, .slice m2 k7 f2, .slice m3 k8 f3] 45)) (by decide))).trans (HBKW.out.alloc (.cells #[.int .u8 (kd : Nat), .slice n1 k1 d1, .slice n2 k2 d2, .slice n3 k3 d3, .int .u8 (sd : Nat), .slice n4 k4 d4, .slice n5 k5 d5, .slice m1 k6 f1, .slice m2 k7 f2, .slice m3 k8 f3] 45)))
                  clear hown3 hg3 hb3 hbw
                  go_wp2_with fail
                  go_roundg (gk - 1)
                  case measure => have := HX.out; omega
                  case rel => exact ⟨x + 1, by have := HX.out; omega, by go_num, HT1.out, HBK1.out, HB1.out⟩
                | true =>
                  have HFX := Lib.hid (show F x = withLate (T x) (insL (T x).par.late (i : Nat)) by rw [HFU.out, if_pos rfl]; rfl)
                  have HPU := Lib.hid (tput_any (.slice m3 k8 f3) (T x).par.late (i : Nat) w2 (HRL.out.below HBW.out (Nat.le_refl _)) (by have := HLB1.out; omega))
                  have c9 : w2.cell? ⟨wr.heap.size, 9, none⟩ = some (.slice m3 k8 f3) := (HYB.out.cell 9).trans rfl
                  go_wp2_with fail
                  refine (HPU.out).mono ?_
                  rintro e w3 ⟨V, rfl, hov, hb3⟩
                  have hyb3 := HYB.out.below hb3 HYB.out.lt
                  have hov1 := hov.mono HBW.out.size
                  have hne := hov1.ne_blk hyb3 (by decide)
                  have hov4 := hov1.setOther (a := ⟨wr.heap.size, 9, none⟩) hne V
                  have hyb4 := hyb3.set 9 V
                  have hb4 := HBW.out.trans (hb3.mono HBW.out.size)
                  have hgs := grownBy_setCells (w := w3) (g := wr.heap.size) [V] 9
                  have hb5 : Below w.heap.size w (w3.setCell ⟨wr.heap.size, 9, none⟩ V) := hb4.grown hgs hb4.size (fun k hk => by simp only [Option.some.injEq] at hk; omega)
                  have hbk5 : Blk (w3.setCell ⟨wr.heap.size, 9, none⟩ V) w.heap.size 25 #[.slice a1 l1 c1, .slice a2 l2 c2, .slice a3 l3 c3, .int .u8 (s : Nat), .slice a4 l4 c4, .slice a5 l5 c5] := (HBKW.out.below hb3 HBKW.out.lt).far (p := ⟨wr.heap.size, 9, none⟩) (by have := HBK.out.lt; simp only; omega) V
                  have hnp5 := fun j (hj : j < x) => ((HNPW.out j hj).below hb3).set (k := 9) (u := V) hyb3
                  have ho5 : OwnK (w3.setCell ⟨wr.heap.size, 9, none⟩ V) w.heap.size 45 10 _ x xs := World.ownsRow.kept (HO2.out.below hb3 (Nat.le_refl _)) hgs (.inr (fun e => by
                    have := (World.ownsRow.lt HO.out _ e).2
                    omega))
                  have hnx5 : NodeP w (w3.setCell ⟨wr.heap.size, 9, none⟩ V) (F x) (#[.int .u8 (kd : Nat), .slice n1 k1 d1, .slice n2 k2 d2, .slice n3 k3 d3, .int .u8 (sd : Nat), .slice n4 k4 d4, .slice n5 k5 d5, .slice m1 k6 f1, .slice m2 k7 f2, .slice m3 k8 f3].setIfInBounds 9 V) := .inr ⟨T x, _, V, _, HN2.out, hov4, HFX.out, rfl⟩
                  have hone5 := hnx5.one hb5
                  have hd1 : w3.cell? ⟨wr.heap.size, 9, none⟩ = some (.slice m3 k8 f3) := (hyb3.cell 9).trans rfl
                  have hd2 : w3.frozen? ⟨wr.heap.size, 9, none⟩ = false := hyb3.frozen 9
                  obtain ⟨q1, q2, q3, rfl⟩ := slOf hov1
                  have HYB5 := Lib.hid (show Blk (w3.setCell ⟨wr.heap.size, 9, none⟩ (.slice q1 q2 q3)) wr.heap.size 45 #[.int .u8 (kd : Nat), .slice n1 k1 d1, .slice n2 k2 d2, .slice n3 k3 d3, .int .u8 (sd : Nat), .slice n4 k4 d4, .slice n5 k5 d5, .slice m1 k6 f1, .slice m2 k7 f2, .slice q1 q2 q3] from hyb4)
                  have HBW5 := Lib.hid hb5
                  have HBKW5 := Lib.hid hbk5
                  have HNPW5 := Lib.hid hnp5
                  have HO5 := Lib.hid ho5
                  have HNX := Lib.hid (show NodeP w (w3.setCell ⟨wr.heap.size, 9, none⟩ (.slice q1 q2 q3)) (F x) #[.int .u8 (kd : Nat), .slice n1 k1 d1, .slice n2 k2 d2, .slice n3 k3 d3, .int .u8 (sd : Nat), .slice n4 k4 d4, .slice n5 k5 d5, .slice m1 k6 f1, .slice m2 k7 f2, .slice q1 q2 q3] from hnx5)
                  have HONE5 := Lib.hid (show ∀ u ∈ ([.int .u8 (kd : Nat), .slice n1 k1 d1, .slice n2 k2 d2, .slice n3 k3 d3, .int .u8 (sd : Nat), .slice n4 k4 d4, .slice n5 k5 d5, .slice m1 k6 f1, .slice m2 k7 f2, .slice q1 q2 q3] : List Value), u.oneCell' = true from hone5)
                  have hw5 := hb5.size
                  obtain ⟨w5, hw5e⟩ : ∃ W, W = w3.setCell ⟨wr.heap.size, 9, none⟩ (.slice q1 q2 q3) := ⟨_, rfl⟩
                  rw [← hw5e] at HYB5 HBW5 HBKW5 HNPW5 HO5 HNX hw5
                  have HW5 := Lib.hid hw5e
                  clear hyb3 hov hov1 hne hov4 hyb4 hb4 hgs hb5 hbk5 hnp5 ho5 hnx5 hone5 hb3 hw5e HBW HBKW HNPW HO2 HONE HYB c9
                  go_wp2_with (first | (at_builtin; refine wpList_pushG rfl (.tmp 74) (.tmp 76) 22 rfl w.heap.size 45 _ 10 208 treesE _ x _ rfl (HO5.out.alloc (.cells #[.int .u8 (kd : Nat), .slice n1 k1 d1, .slice n2 k2 d2, .slice n3 k3 d3, .int .u8 (sd : Nat), .slice n4 k4 d4, .slice n5 k5 d5, .slice m1 k6 f1, .slice m2 k7 f2, .slice q1 q2 q3] 45)) w5.heap.size [.int .u8 (kd : Nat), .slice n1 k1 d1, .slice n2 k2 d2, .slice n3 k3 d3, .int .u8 (sd : Nat), .slice n4 k4 d4, .slice n5 k5 d5, .slice m1 k6 f1, .slice m2 k7 f2, .slice q1 q2 q3] rfl rfl ?c1e HONE5.out ?c2e ?c3e ?_) | (rw [← HW5.out]; refine wpList_load_at rfl 45 (.tmp 12) rfl wr.heap.size rfl 45 #[.int .u8 (kd : Nat), .slice n1 k1 d1, .slice n2 k2 d2, .slice n3 k3 d3, .int .u8 (sd : Nat), .slice n4 k4 d4, .slice n5 k5 d5, .slice m1 k6 f1, .slice m2 k7 f2, .slice q1 q2 q3] (0, 0) _ HYB5.out Try.underlying45 rfl (by kernel_rfl) ?_))
                  case c1e => exact cells_new (cs := [.int .u8 (kd : Nat), .slice n1 k1 d1, .slice n2 k2 d2, .slice n3 k3 d3, .int .u8 (sd : Nat), .slice n4 k4 d4, .slice n5 k5 d5, .slice m1 k6 f1, .slice m2 k7 f2, .slice q1 q2 q3]) rfl
                  case c2e => omega
                  case c3e => have := HBW5.out.size; simp; omega
                  rintro v' w3 hown3 hg3 hb3
                  have HT1 := Lib.hid (TreeN.snoc (F := F) (w0 := w) (HO5.out.alloc (.cells #[.int .u8 (kd : Nat), .slice n1 k1 d1, .slice n2 k2 d2, .slice n3 k3 d3, .int .u8 (sd : Nat), .slice n4 k4 d4, .slice n5 k5 d5, .slice m1 k6 f1, .slice m2 k7 f2, .slice q1 q2 q3] 45)) HXL.out (fun j hj => ((HNPW5.out j hj).below ((Below.refl _ _).alloc (Nat.le_refl _) _))) (ys := [.int .u8 (kd : Nat), .slice n1 k1 d1, .slice n2 k2 d2, .slice n3 k3 d3, .int .u8 (sd : Nat), .slice n4 k4 d4, .slice n5 k5 d5, .slice m1 k6 f1, .slice m2 k7 f2, .slice q1 q2 q3]) rfl (HNX.out.below ((Below.refl _ _).alloc (Nat.le_refl _) _)) hown3 hg3)
                  have hbw := (HBW5.out.alloc HBW5.out.size (.cells #[.int .u8 (kd : Nat), .slice n1 k1 d1, .slice n2 k2 d2, .slice n3 k3 d3, .int .u8 (sd : Nat), .slice n4 k4 d4, .slice n5 k5 d5, .slice m1 k6 f1, .slice m2 k7 f2, .slice q1 q2 q3] 45))
                  have HB1 := Lib.hid (hbw.trans hb3)
                  have HBK1 := Lib.hid (show Blk w3 w.heap.size 25 #[.slice a1 l1 c1, .slice a2 l2 c2, .slice a3 l3 c3, .int .u8 (s : Nat), .slice a4 l4 c4, .slice a5 l5 c5] from (hg3.block w.heap.size (HBKW5.out.alloc (.cells #[.int .u8 (kd : Nat), .slice n1 k1 d1, .slice n2 k2 d2, .slice n3 k3 d3, .int .u8 (sd : Nat), .slice n4 k4 d4, .slice n5 k5 d5, .slice m1 k6 f1, .slice m2 k7 f2, .slice q1 q2 q3] 45)).lt (OwnK.neBlk (HO5.out.alloc (.cells #[.int .u8 (kd : Nat), .slice n1 k1 d1, .slice n2 k2 d2, .slice n3 k3 d3, .int .u8 (sd : Nat), .slice n4 k4 d4, .slice n5 k5 d5, .slice m1 k6 f1, .slice m2 k7 f2, .slice q1 q2 q3] 45)) (HBKW5.out.alloc (.cells #[.int .u8 (kd : Nat), .slice n1 k1 d1, .slice n2 k2 d2, .slice n3 k3 d3, .int .u8 (sd : Nat), .slice n4 k4 d4, .slice n5 k5 d5, .slice m1 k6 f1, .slice m2 k7 f2, .slice q1 q2 q3] 45)) (by decide))).trans (HBKW5.out.alloc (.cells #[.int .u8 (kd : Nat), .slice n1 k1 d1, .slice n2 k2 d2, .slice n3 k3 d3, .int .u8 (sd : Nat), .slice n4 k4 d4, .slice n5 k5 d5, .slice m1 k6 f1, .slice m2 k7 f2, .slice q1 q2 q3] 45)))
                  clear hown3 hg3 hb3 hbw
                  go_wp2_with fail
                  go_roundg (gk - 1)
                  case measure => have := HX.out; omega
                  case rel => exact ⟨x + 1, by have := HX.out; omega, by go_num, HT1.out, HBK1.out, HB1.out⟩
              · have hq : ((kd : Int) == 2) = false := by rw [beq_eq_false_iff_ne]; omega
                have HNX := Lib.hid (show NodeC w (F x) #[.int .u8 (kd : Nat), .slice n1 k1 d1, .slice n2 k2 d2, .slice n3 k3 d3, .int .u8 (sd : Nat), .slice n4 k4 d4, .slice n5 k5 d5, .slice m1 k6 f1, .slice m2 k7 f2, .slice m3 k8 f3] by rw [HFPL.out x HXI.out (by rw [← HKD.out]; exact hk2)]; exact HN.out)
                clear hk2
                have HBW := Lib.hid (HB.out.alloc HB.out.size (.cells #[.int .u8 (kd : Nat), .slice n1 k1 d1, .slice n2 k2 d2, .slice n3 k3 d3, .int .u8 (sd : Nat), .slice n4 k4 d4, .slice n5 k5 d5, .slice m1 k6 f1, .slice m2 k7 f2, .slice m3 k8 f3] 45))
                have HBKW := Lib.hid (HBK.out.alloc (.cells #[.int .u8 (kd : Nat), .slice n1 k1 d1, .slice n2 k2 d2, .slice n3 k3 d3, .int .u8 (sd : Nat), .slice n4 k4 d4, .slice n5 k5 d5, .slice m1 k6 f1, .slice m2 k7 f2, .slice m3 k8 f3] 45))
                have HNPW := Lib.hid (fun j (hj : j < x) => (HNP.out j hj).below ((Below.refl wr.heap.size wr).alloc (Nat.le_refl _) (.cells #[.int .u8 (kd : Nat), .slice n1 k1 d1, .slice n2 k2 d2, .slice n3 k3 d3, .int .u8 (sd : Nat), .slice n4 k4 d4, .slice n5 k5 d5, .slice m1 k6 f1, .slice m2 k7 f2, .slice m3 k8 f3] 45)))
                have HONE := Lib.hid (show ∀ u ∈ ([.int .u8 (kd : Nat), .slice n1 k1 d1, .slice n2 k2 d2, .slice n3 k3 d3, .int .u8 (sd : Nat), .slice n4 k4 d4, .slice n5 k5 d5, .slice m1 k6 f1, .slice m2 k7 f2, .slice m3 k8 f3] : List Value), u.oneCell' = true from NodeP.one (w0 := w) (W := w) (d := F x) (.inl HNX.out) (Below.refl _ _))
                go_wp2_with (first | (at_builtin; refine wpList_pushG rfl (.tmp 74) (.tmp 76) 22 rfl w.heap.size 45 _ 10 208 treesE _ x _ rfl ((HO.out.alloc (.cells #[.int .u8 (kd : Nat), .slice n1 k1 d1, .slice n2 k2 d2, .slice n3 k3 d3, .int .u8 (sd : Nat), .slice n4 k4 d4, .slice n5 k5 d5, .slice m1 k6 f1, .slice m2 k7 f2, .slice m3 k8 f3] 45)).alloc (.cells #[.int .u8 (kd : Nat), .slice n1 k1 d1, .slice n2 k2 d2, .slice n3 k3 d3, .int .u8 (sd : Nat), .slice n4 k4 d4, .slice n5 k5 d5, .slice m1 k6 f1, .slice m2 k7 f2, .slice m3 k8 f3] 45)) (wr.heap.size + 1) [.int .u8 (kd : Nat), .slice n1 k1 d1, .slice n2 k2 d2, .slice n3 k3 d3, .int .u8 (sd : Nat), .slice n4 k4 d4, .slice n5 k5 d5, .slice m1 k6 f1, .slice m2 k7 f2, .slice m3 k8 f3] rfl rfl ?c1b HONE.out ?c2b ?c3b ?_) | (refine wpList_load_mid rfl 45 (.tmp 51) rfl b (off + x * 10) rfl [.int .u8 (kd : Nat), .slice n1 k1 d1, .slice n2 k2 d2, .slice n3 k3 d3, .int .u8 (sd : Nat), .slice n4 k4 d4, .slice n5 k5 d5, .slice m1 k6 f1, .slice m2 k7 f2, .slice m3 k8 f3] _ HRA.out Try.underlying45 rfl node_info ?_))
                case c2b => omega
                case c3b => have := HBW.out.size; simp; omega
                rintro v' w3 hown3 hg3 hb3
                have HT1 := Lib.hid (TreeN.snoc (F := F) (w0 := w) ((HO.out.alloc (.cells #[.int .u8 (kd : Nat), .slice n1 k1 d1, .slice n2 k2 d2, .slice n3 k3 d3, .int .u8 (sd : Nat), .slice n4 k4 d4, .slice n5 k5 d5, .slice m1 k6 f1, .slice m2 k7 f2, .slice m3 k8 f3] 45)).alloc (.cells #[.int .u8 (kd : Nat), .slice n1 k1 d1, .slice n2 k2 d2, .slice n3 k3 d3, .int .u8 (sd : Nat), .slice n4 k4 d4, .slice n5 k5 d5, .slice m1 k6 f1, .slice m2 k7 f2, .slice m3 k8 f3] 45)) HXL.out (fun j hj => ((HNPW.out j hj).below ((Below.refl _ _).alloc (Nat.le_refl _) _))) (ys := [.int .u8 (kd : Nat), .slice n1 k1 d1, .slice n2 k2 d2, .slice n3 k3 d3, .int .u8 (sd : Nat), .slice n4 k4 d4, .slice n5 k5 d5, .slice m1 k6 f1, .slice m2 k7 f2, .slice m3 k8 f3]) rfl (.inl HNX.out) hown3 hg3)
                have hbw := (HBW.out.alloc HBW.out.size (.cells #[.int .u8 (kd : Nat), .slice n1 k1 d1, .slice n2 k2 d2, .slice n3 k3 d3, .int .u8 (sd : Nat), .slice n4 k4 d4, .slice n5 k5 d5, .slice m1 k6 f1, .slice m2 k7 f2, .slice m3 k8 f3] 45))
                have HB1 := Lib.hid (hbw.trans hb3)
                have HBK1 := Lib.hid (show Blk w3 w.heap.size 25 #[.slice a1 l1 c1, .slice a2 l2 c2, .slice a3 l3 c3, .int .u8 (s : Nat), .slice a4 l4 c4, .slice a5 l5 c5] from (hg3.block w.heap.size (HBKW.out.alloc (.cells #[.int .u8 (kd : Nat), .slice n1 k1 d1, .slice n2 k2 d2, .slice n3 k3 d3, .int .u8 (sd : Nat), .slice n4 k4 d4, .slice n5 k5 d5, .slice m1 k6 f1, .slice m2 k7 f2, .slice m3 k8 f3] 45)).lt (OwnK.neBlk ((HO.out.alloc (.cells #[.int .u8 (kd : Nat), .slice n1 k1 d1, .slice n2 k2 d2, .slice n3 k3 d3, .int .u8 (sd : Nat), .slice n4 k4 d4, .slice n5 k5 d5, .slice m1 k6 f1, .slice m2 k7 f2, .slice m3 k8 f3] 45)).alloc (.cells #[.int .u8 (kd : Nat), .slice n1 k1 d1, .slice n2 k2 d2, .slice n3 k3 d3, .int .u8 (sd : Nat), .slice n4 k4 d4, .slice n5 k5 d5, .slice m1 k6 f1, .slice m2 k7 f2, .slice m3 k8 f3] 45)) (HBKW.out.alloc (.cells #[.int .u8 (kd : Nat), .slice n1 k1 d1, .slice n2 k2 d2, .slice n3 k3 d3, .int .u8 (sd : Nat), .slice n4 k4 d4, .slice n5 k5 d5, .slice m1 k6 f1, .slice m2 k7 f2, .slice m3 k8 f3] 45)) (by decide))).trans (HBKW.out.alloc (.cells #[.int .u8 (kd : Nat), .slice n1 k1 d1, .slice n2 k2 d2, .slice n3 k3 d3, .int .u8 (sd : Nat), .slice n4 k4 d4, .slice n5 k5 d5, .slice m1 k6 f1, .slice m2 k7 f2, .slice m3 k8 f3] 45)))
                clear hown3 hg3 hb3 hbw
                go_wp2_with fail
                go_roundg (gk - 1)
                case measure => have := HX.out; omega
                case rel => exact ⟨x + 1, by have := HX.out; omega, by go_num, HT1.out, HBK1.out, HB1.out⟩
            · have hxn : ¬ (x < n) := by omega
              have hxnI : ¬ ((x : Int) < (n : Int)) := by omega
              have hxnD : decide ((x : Int) < (n : Int)) = false := decide_eq_false hxnI
              have HNX := Lib.hid (show NodeC w (F x) #[.int .u8 0, .slice none 0 0, .slice none 0 0, .slice none 0 0, .int .u8 0, .slice none 0 0, .slice none 0 0, .slice none 0 0, .slice none 0 0, .slice none 0 0] by rw [HFPL.out x HXI.out (by rw [HNDO.out x (by omega)]; decide), HNDO.out x (by omega)]; exact noNode_c w)
              have HBW := Lib.hid (HB.out.alloc HB.out.size (.cells #[.int .u8 0, .slice none 0 0, .slice none 0 0, .slice none 0 0, .int .u8 0, .slice none 0 0, .slice none 0 0, .slice none 0 0, .slice none 0 0, .slice none 0 0] 45))
              have HBKW := Lib.hid (HBK.out.alloc (.cells #[.int .u8 0, .slice none 0 0, .slice none 0 0, .slice none 0 0, .int .u8 0, .slice none 0 0, .slice none 0 0, .slice none 0 0, .slice none 0 0, .slice none 0 0] 45))
              have HNPW := Lib.hid (fun j (hj : j < x) => (HNP.out j hj).below ((Below.refl wr.heap.size wr).alloc (Nat.le_refl _) (.cells #[.int .u8 0, .slice none 0 0, .slice none 0 0, .slice none 0 0, .int .u8 0, .slice none 0 0, .slice none 0 0, .slice none 0 0, .slice none 0 0, .slice none 0 0] 45)))
              have HONE := Lib.hid (show ∀ u ∈ ([.int .u8 0, .slice none 0 0, .slice none 0 0, .slice none 0 0, .int .u8 0, .slice none 0 0, .slice none 0 0, .slice none 0 0, .slice none 0 0, .slice none 0 0] : List Value), u.oneCell' = true from NodeP.one (w0 := w) (W := w) (d := F x) (.inl HNX.out) (Below.refl _ _))
              go_wp2_with (first | (at_builtin; refine wpList_pushG rfl (.tmp 74) (.tmp 76) 22 rfl w.heap.size 45 _ 10 208 treesE _ x _ rfl ((HO.out.alloc (.cells #[.int .u8 0, .slice none 0 0, .slice none 0 0, .slice none 0 0, .int .u8 0, .slice none 0 0, .slice none 0 0, .slice none 0 0, .slice none 0 0, .slice none 0 0] 45)).alloc (.cells #[.int .u8 0, .slice none 0 0, .slice none 0 0, .slice none 0 0, .int .u8 0, .slice none 0 0, .slice none 0 0, .slice none 0 0, .slice none 0 0, .slice none 0 0] 45)) (wr.heap.size + 1) [.int .u8 0, .slice none 0 0, .slice none 0 0, .slice none 0 0, .int .u8 0, .slice none 0 0, .slice none 0 0, .slice none 0 0, .slice none 0 0, .slice none 0 0] rfl rfl ?c1c HONE.out ?c2c ?c3c ?_))
              case c2c => omega
              case c3c => have := HBW.out.size; simp; omega
              rintro v' w3 hown3 hg3 hb3
              have HT1 := Lib.hid (TreeN.snoc (F := F) (w0 := w) ((HO.out.alloc (.cells #[.int .u8 0, .slice none 0 0, .slice none 0 0, .slice none 0 0, .int .u8 0, .slice none 0 0, .slice none 0 0, .slice none 0 0, .slice none 0 0, .slice none 0 0] 45)).alloc (.cells #[.int .u8 0, .slice none 0 0, .slice none 0 0, .slice none 0 0, .int .u8 0, .slice none 0 0, .slice none 0 0, .slice none 0 0, .slice none 0 0, .slice none 0 0] 45)) HXL.out (fun j hj => ((HNPW.out j hj).below ((Below.refl _ _).alloc (Nat.le_refl _) _))) (ys := [.int .u8 0, .slice none 0 0, .slice none 0 0, .slice none 0 0, .int .u8 0, .slice none 0 0, .slice none 0 0, .slice none 0 0, .slice none 0 0, .slice none 0 0]) rfl (.inl HNX.out) hown3 hg3)
              have hbw := (HBW.out.alloc HBW.out.size (.cells #[.int .u8 0, .slice none 0 0, .slice none 0 0, .slice none 0 0, .int .u8 0, .slice none 0 0, .slice none 0 0, .slice none 0 0, .slice none 0 0, .slice none 0 0] 45))
              have HB1 := Lib.hid (hbw.trans hb3)
              have HBK1 := Lib.hid (show Blk w3 w.heap.size 25 #[.slice a1 l1 c1, .slice a2 l2 c2, .slice a3 l3 c3, .int .u8 (s : Nat), .slice a4 l4 c4, .slice a5 l5 c5] from (hg3.block w.heap.size (HBKW.out.alloc (.cells #[.int .u8 0, .slice none 0 0, .slice none 0 0, .slice none 0 0, .int .u8 0, .slice none 0 0, .slice none 0 0, .slice none 0 0, .slice none 0 0, .slice none 0 0] 45)).lt (OwnK.neBlk ((HO.out.alloc (.cells #[.int .u8 0, .slice none 0 0, .slice none 0 0, .slice none 0 0, .int .u8 0, .slice none 0 0, .slice none 0 0, .slice none 0 0, .slice none 0 0, .slice none 0 0] 45)).alloc (.cells #[.int .u8 0, .slice none 0 0, .slice none 0 0, .slice none 0 0, .int .u8 0, .slice none 0 0, .slice none 0 0, .slice none 0 0, .slice none 0 0, .slice none 0 0] 45)) (HBKW.out.alloc (.cells #[.int .u8 0, .slice none 0 0, .slice none 0 0, .slice none 0 0, .int .u8 0, .slice none 0 0, .slice none 0 0, .slice none 0 0, .slice none 0 0, .slice none 0 0] 45)) (by decide))).trans (HBKW.out.alloc (.cells #[.int .u8 0, .slice none 0 0, .slice none 0 0, .slice none 0 0, .int .u8 0, .slice none 0 0, .slice none 0 0, .slice none 0 0, .slice none 0 0, .slice none 0 0] 45)))
              clear hown3 hg3 hb3 hbw
              go_wp2_with fail
              go_roundg (gk - 1)
              case measure => have := HX.out; omega
              case rel => exact ⟨x + 1, by have := HX.out; omega, by go_num, HT1.out, HBK1.out, HB1.out⟩
        · obtain rfl : x = m := by omega
          have hlt' : decide (x < x) = false := decide_eq_false hlt
          have hltI : ¬ ((x : Int) < 4 * (i : Int) - 1) := by have := HKM.out; omega
          have HF := Lib.hid (HFIN.out wr _ ⟨xs, hown, hxl, hnp⟩ hb)
          clear hx hown hxl hnp hb hbk hlt
          go_wp2_with fail
          go_ret2
          exact ⟨_, rfl, HF.out, HB.out⟩
end Go.Proofs.Ytlcmodbjbdfloaa
