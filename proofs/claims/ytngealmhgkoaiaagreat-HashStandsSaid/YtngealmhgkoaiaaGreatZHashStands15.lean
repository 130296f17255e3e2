/- Trees as data: a slice of nodes as it reads; how many leaves; walks of what looks at a tree's size. -/
import Derived.Test.YtngealmhgkoaiaaGreatZHashStands12
import Derived.Test.YtngealmhgkoaiaaGreatZHashStands14
import Derived.Deep.MidRow
import Derived.Test.YtngealmhgkoaiaaGreatZHashStands08
namespace Go.Proofs.YtngealmhgkoaiaaGreat
open Go.RowKit
set_option linter.unusedVariables false
/-- what is returned is known -/
theorem retB {a b : Bool} (h : a = b) : Ending.returned (.bool b) = .returned (.bool a) := by rw [h]
theorem retN {k : IntKind} {a b : Int} (h : a = b) : Ending.returned (.int k b) = .returned (.int k a) := by rw [h]
def nd (t : List NodeD) (i : Nat) : NodeD := t.getD i noNodeD
/-- v is a slice of nodes -/
def TreeR (w : World) (v : Value) (t : List NodeD) : Prop :=
 ∃ a cap, v = .slice a t.length cap ∧ t.length ≤ cap ∧ cap ≤ maxLen ∧ ∀ i, i < t.length → ∃ b off c, a = some ⟨b, off, none⟩ ∧ b < w.heap.size ∧ NodeC w (nd t i) c ∧ w.rangeAt b (off + i * 10) c.toList
theorem rangeAt_below {w w' : World} {B b o : Nat} {cs : List Value} (h : w.rangeAt b o cs) (hb : Below B w w') (hB : b < B) : w'.rangeAt b o cs := by
 intro j u hu
 exact (hb.cell (p := ⟨b, o + j, none⟩) hB).trans (h j u hu)
theorem TreeR.below {w w' : World} {B : Nat} {v : Value} {t : List NodeD} (h : TreeR w v t) (hb : Below B w w') (hB : w.heap.size ≤ B) : TreeR w' v t := by
 obtain ⟨a, cap, e, h1, h2, h3⟩ := h
 refine ⟨a, cap, e, h1, h2, fun i hi => ?_⟩
 obtain ⟨b, off, c, e, hl, hn, hr⟩ := h3 i hi
 exact ⟨b, off, c, e, Nat.lt_of_lt_of_le hl hb.size, hn.below hb hB, rangeAt_below hr hb (by omega)⟩
theorem TreeR.nil (w : World) : TreeR w (.slice none 0 0) [] := ⟨none, 0, rfl, Nat.le_refl _, Nat.zero_le _, fun i hi => absurd hi (by simp)⟩
theorem TreeR.sl {w : World} {v : Value} {t : List NodeD} (h : TreeR w v t) : ∃ a c, v = .slice a t.length c ∧ t.length ≤ c ∧ c ≤ 9223372036854775807 := by
 obtain ⟨a, cap, e, h1, h2, _⟩ := h
 unfold maxLen at h2
 exact ⟨a, cap, e, h1, h2⟩
theorem TreeR.node {w : World} {a : Option Addr} {n c : Nat} {t : List NodeD} (h : TreeR w (.slice a n c) t) {i : Nat} (hi : i < n) : ∃ b off cs, a = some ⟨b, off, none⟩ ∧ b < w.heap.size ∧ NodeC w (nd t i) cs ∧ w.rangeAt b (off + i * 10) cs.toList := by
 obtain ⟨a', cap, e, h1, h2, h3⟩ := h
 simp only [Value.slice.injEq] at e
 obtain ⟨rfl, rfl, rfl⟩ := e
 exact h3 i hi
theorem NodeC.size {w : World} {d : NodeD} {c : Array Value} (h : NodeC w d c) : c.size = 10 := by
 obtain ⟨a1, c1, a2, c2, a3, c3, a4, c4, a5, c5, b1, e1, b2, e2, b3, e3, rfl, _⟩ := h; rfl
theorem NodeC.kind {w : World} {d : NodeD} {c : Array Value} (h : NodeC w d c) : c.toList[0]? = some (.int .u8 (d.kind : Nat)) := by
 obtain ⟨a1, c1, a2, c2, a3, c3, a4, c4, a5, c5, b1, e1, b2, e2, b3, e3, rfl, _⟩ := h; rfl
theorem NodeC.late {w : World} {d : NodeD} {c : Array Value} (h : NodeC w d c) : ∃ b e, c.toList[9]? = some (.slice b d.par.late.length e) ∧ Rd w (.slice b d.par.late.length e) (ivs .i64 d.par.late) := by
 obtain ⟨a1, c1, a2, c2, a3, c3, a4, c4, a5, c5, b1, e1, b2, e2, b3, e3, rfl, h1, h2, h3, h4, h5, h6, h7, h8⟩ := h
 exact ⟨b3, e3, rfl, h8⟩
def TreeOk (t : List NodeD) : Prop := ∀ d ∈ t, NodeOk d
theorem TreeOk.nd {t : List NodeD} (h : TreeOk t) (i : Nat) : NodeOk (nd t i) := by
 unfold Go.Proofs.YtngealmhgkoaiaaGreat.nd
 rw [List.getD_eq_getElem?_getD]
 by_cases hi : i < t.length
 ·rw [List.getElem?_eq_getElem hi]; exact h _ (List.getElem_mem hi)
 ·rw [List.getElem?_eq_none (by omega)]; exact noNode_ok
/-- a tree that is looked at -/
def smallT (t : List NodeD) : Bool := decide (t.length ≤ 40) && t.all smallB
theorem smallT_len {t : List NodeD} (h : smallT t = true) : t.length ≤ 40 := by
 rw [smallT, Bool.and_eq_true] at h; exact of_decide_eq_true h.1
theorem smallB_no : smallB noNodeD = true := by decide
theorem smallT_nd {t : List NodeD} (h : smallT t = true) (i : Nat) : smallB (nd t i) = true := by
 rw [smallT, Bool.and_eq_true] at h
 unfold Go.Proofs.YtngealmhgkoaiaaGreat.nd
 rw [List.getD_eq_getElem?_getD]
 by_cases hi : i < t.length
 ·rw [List.getElem?_eq_getElem hi]; exact List.all_eq_true.1 h.2 _ (List.getElem_mem hi)
 ·rw [List.getElem?_eq_none (by omega)]; exact smallB_no
/-- a tree with no more nodes than are met -/
def medT (t : List NodeD) : Bool := decide (t.length ≤ 63) && t.all smallB
theorem medT_len {t : List NodeD} (h : medT t = true) : t.length ≤ 63 := by
 rw [medT, Bool.and_eq_true] at h; exact of_decide_eq_true h.1
theorem smallT_med {t : List NodeD} (h : smallT t = true) : medT t = true := by
 rw [smallT, Bool.and_eq_true] at h
 rw [medT, Bool.and_eq_true]
 exact ⟨decide_eq_true (by have := of_decide_eq_true h.1; omega), h.2⟩
theorem medT_nd {t : List NodeD} (h : medT t = true) (i : Nat) : smallB (nd t i) = true := by
 rw [medT, Bool.and_eq_true] at h
 unfold Go.Proofs.YtngealmhgkoaiaaGreat.nd
 rw [List.getD_eq_getElem?_getD]
 by_cases hi : i < t.length
 ·rw [List.getElem?_eq_getElem hi]; exact List.all_eq_true.1 h.2 _ (List.getElem_mem hi)
 ·rw [List.getElem?_eq_none (by omega)]; exact smallB_no
theorem smallT_of {t : List NodeD} (hl : t.length ≤ 40) (h : ∀ i, i < t.length → smallB (nd t i) = true) : smallT t = true := by
 rw [smallT, Bool.and_eq_true]
 refine ⟨decide_eq_true hl, List.all_eq_true.2 fun d hd => ?_⟩
 obtain ⟨i, hi, rfl⟩ := List.getElem_of_mem hd
 have := h i hi
 rw [nd, List.getD_eq_getElem?_getD, List.getElem?_eq_getElem hi] at this
 exact this
theorem smallT_no {t : List NodeD} {i : Nat} (hi : i < t.length) (h : smallB (nd t i) = false) : smallT t = false := by
 cases hs : smallT t with
 | false => rfl
 | true => rw [smallT_nd hs] at h; cases h
theorem node_info : (Tryz.prog.info? 54).map (·.size) = some 10 := by kernel_rfl
theorem small_nodeC (d : NodeD) (c : Array Value) (w : World) (h : NodeC w d c) :
  Calls Tryz.prog 68 #[.agg c] w fun e w' => e = .returned (.bool (smallB d)) ∧ Below w.heap.size w w' := by
 obtain ⟨a1, c1, a2, c2, a3, c3, a4, c4, a5, c5, b1, e1, b2, e2, b3, e3, rfl, h1, h2, h3, h4, h5, h6, h7, h8⟩ := h
 exact small_any a1 a2 a3 a4 a5 b1 b2 b3 d.kind d.leaf.source _ _ _ _ _ _ _ _ c1 c2 c3 c4 c5 e1 e2 e3 w
set_option maxRecDepth 100000 in
set_option maxHeartbeats 2000000 in
theorem tsmall_any (v : Value) (t : List NodeD) (w : World) (h : TreeR w v t) :
  Calls Tryz.prog 16 #[v] w fun e w' => e = .returned (.bool (smallT t)) ∧ Below w.heap.size w w' := by
 obtain ⟨a, c, rfl, hc, hc2⟩ := h.sl
 have SM := fun (i : Nat) (cs : Array Value) (W : World) (hw : NodeC W (nd t i) cs) => small_nodeC (nd t i) cs W hw
 have GN := fun (W : World) (hw : Below w.heap.size w W) (i : Nat) (hi : i < t.length) => (h.below hw (Nat.le_refl _)).node hi
 have S1 := fun (hl : t.length ≤ 40) (h : ∀ i, i < t.length → smallB (nd t i) = true) => smallT_of hl h
 have S2 := fun (i : Nat) (hi : i < t.length) (h : smallB (nd t i) = false) => smallT_no hi h
 have S3 := fun (hl : ¬ t.length ≤ 40) => (show smallT t = false by rw [smallT, decide_eq_false hl, Bool.false_and])
 obtain ⟨n, hn⟩ : ∃ n, n = t.length := ⟨_, rfl⟩
 rw [← hn] at GN S1 S2 S3 hc ⊢
 have HSM := Lib.hid SM
 have HGN := Lib.hid GN
 have HS1 := Lib.hid S1
 have HS2 := Lib.hid S2
 have HS3 := Lib.hid S3
 obtain ⟨R, hR⟩ : ∃ R, R = smallT t := ⟨_, rfl⟩
 rw [← hR] at HS1 HS2 HS3 ⊢
 clear SM GN S1 S2 S3 h hn hR
 by_cases h40 : n ≤ 40
 ·go_enter Tryz.func16, Tryz.ntmps16
  go_wp2_with fail
  go_loopg [3] n (fun q iv wr => ∃ r : Nat, r + q = n ∧ iv = .int .i64 (r : Nat) ∧ (∀ i, i < r → smallB (nd t i) = true) ∧ Below w.heap.size w wr)
  case atStart => exact ⟨0, by omega, rfl, fun i hi => by omega, Below.refl _ _⟩
  case round =>
   obtain ⟨r, hr, rfl, hsm, hb⟩ := hrel
   have HR := Lib.hid hr
   have HM := Lib.hid hsm
   have HB := Lib.hid hb
   clear hr hsm hb
   by_cases hlt : r < n
   ·have hlt' : decide (r < n) = true := decide_eq_true hlt
    have hltI : decide ((r : Int) < (n : Int)) = true := by rw [decide_eq_true_iff]; omega
    obtain ⟨b, off, cs, rfl, hbl, hnc, hra⟩ := HGN.out wr HB.out r hlt
    have HRA := Lib.hid hra
    have HNC := Lib.hid hnc
    have HSZ := Lib.hid hnc.size
    cases hsb : smallB (nd t r) with
    | true =>
     have HSB := Lib.hid hsb
     clear hsb hra hnc
     go_wp2_with (refine wpList_load_mid rfl 54 (.tmp 15) rfl b (off + r * 10) rfl cs.toList _ HRA.out Tryz.underlying54 rfl (by rw [Array.length_toList, HSZ.out]; exact node_info) ?_)
     refine (HSM.out r cs wr HNC.out).mono ?_
     rintro e w2 ⟨rfl, hb2⟩
     have HB2 := Lib.hid (HB.out.trans (hb2.mono HB.out.size))
     clear hb2
     rw [HSB.out]
     go_wp2_with fail
     go_roundg (gk - 1)
     case measure => have := HR.out; omega
     case rel =>
      refine ⟨r + 1, by have := HR.out; omega, by go_num, fun i hi => ?_, HB2.out⟩
      by_cases e : i = r
      ·rw [e]; exact HSB.out
      ·exact HM.out i (by omega)
    | false =>
     have HSB := Lib.hid hsb
     clear hsb hra hnc
     go_wp2_with (refine wpList_load_mid rfl 54 (.tmp 15) rfl b (off + r * 10) rfl cs.toList _ HRA.out Tryz.underlying54 rfl (by rw [Array.length_toList, HSZ.out]; exact node_info) ?_)
     refine (HSM.out r cs wr HNC.out).mono ?_
     rintro e w2 ⟨rfl, hb2⟩
     have HB2 := Lib.hid (HB.out.trans (hb2.mono HB.out.size))
     clear hb2
     rw [HSB.out]
     go_wp2_with fail
     go_ret
     exact ⟨retB (HS2.out r hlt HSB.out), HB2.out⟩
   ·obtain rfl : r = n := by have := HR.out; omega
    have hlt' : decide (r < r) = false := decide_eq_false hlt
    go_wp2_with fail
    go_ret
    exact ⟨retB (HS1.out h40 HM.out), HB.out⟩
 ·have h41 : 40 < n := by omega
  clear h40
  go_enter Tryz.func16, Tryz.ntmps16
  go_wp2_with fail
  go_ret
  exact ⟨retB (HS3.out (by omega)), Below.refl _ _⟩
end Go.Proofs.YtngealmhgkoaiaaGreat
/- Walks: how many leaves a row of nodes has; is a number in a list. -/
namespace Go.Proofs.YtngealmhgkoaiaaGreat
open Go.RowKit WalkM
set_option linter.unusedVariables false
theorem slOf {w : World} {B : Nat} {e : TypeId} {v : Value} {xs : List Value} (h : Own w B e v xs) : ∃ a n c, v = .slice a n c := by
 obtain ⟨a, c, e, _⟩ := h.rd
 exact ⟨a, _, c, e⟩
/-- the cell of a slice that is read -/
theorem Rd.at3 {w : World} {a : Option Addr} {n cap r : Nat} {xs : List Value} {u : Value} (h : Rd w (.slice a n cap) xs) (hu : xs[r]? = some u) : ∃ b off, a = some ⟨b, off, none⟩ ∧ b < w.heap.size ∧ w.cell? ⟨b, off + r, none⟩ = some u := by
 rcases h.lt with h0 | ⟨b, off, cap', e1, e2⟩
 ·subst h0; simp at hu
 ·obtain ⟨a', c', e, _, _, h3⟩ := h
  rcases h3 with ⟨h0, _⟩ | ⟨b', off', he, hc⟩
  ·subst h0; simp at hu
  ·simp only [Value.slice.injEq] at e e1
   obtain ⟨rfl, _, _⟩ := e
   obtain ⟨rfl, _, _⟩ := e1
   simp only [Option.some.injEq, Addr.mk.injEq, and_true] at he
   obtain ⟨rfl, rfl⟩ := he
   exact ⟨b, off, rfl, e2, hc r u hu⟩
/-- the leaves of a row of so many nodes; 0: no tree -/
def leavesN (n : Nat) : Nat := if n % 2 = 1 ∧ fits ((n + 1) / 2) = true then (n + 1) / 2 else 0
theorem leavesN_pos {n : Nat} (h : leavesN n ≠ 0) : ∃ d, d ≤ 16 ∧ leavesN n = 2 ^ d ∧ n + 1 = 2 * 2 ^ d := by
 unfold leavesN at h ⊢
 by_cases hc : n % 2 = 1 ∧ fits ((n + 1) / 2) = true
 ·rw [if_pos hc] at h ⊢
  obtain ⟨d, hd, e⟩ := (fits_iff _).1 hc.2
  exact ⟨d, hd, e, by rw [← e]; omega⟩
 ·rw [if_neg hc] at h; exact absurd rfl h
theorem leavesN_pow {n d : Nat} (hd : d ≤ 16) (h : n + 1 = 2 * 2 ^ d) : leavesN n = 2 ^ d := by
 have e : (n + 1) / 2 = 2 ^ d := by omega
 unfold leavesN
 rw [if_pos ⟨by omega, by rw [e]; exact (fits_iff _).2 ⟨d, hd, rfl⟩⟩, e]
set_option maxRecDepth 100000 in
set_option maxHeartbeats 2000000 in
theorem tleaves_any (a : Option Addr) (n c : Nat) (w : World) (hn : n ≤ 1000000) :
  Calls Tryz.prog 121 #[.slice a n c] w fun e w' => e = .returned (.int .i64 (leavesN n : Nat)) ∧ w' = w := by
 obtain ⟨m, hm⟩ : ∃ m, m = (n + 1) / 2 := ⟨_, rfl⟩
 have F := fits_any (m : Int) w (by omega) (by omega)
 rw [Int.toNat_natCast] at F
 have e1 : ((n : Int) + 1) / 2 = (m : Int) := by omega
 have e2 : Int.tdiv ((n : Int) + 1) 2 = (m : Int) := by rw [Int.tdiv_eq_ediv_of_nonneg (by omega)]; omega
 obtain ⟨r, hr⟩ : ∃ r, r = n % 2 := ⟨_, rfl⟩
 have e3 : (n : Int) % 2 = (r : Int) := by omega
 have e4 : Int.tmod (n : Int) 2 = (r : Int) := by rw [Int.tmod_eq_emod_of_nonneg (by omega)]; omega
 have hr2 : r = 0 ∨ r = 1 := by omega
 obtain ⟨L, hL⟩ : ∃ L, L = leavesN n := ⟨_, rfl⟩
 have hLe : L = if r = 1 ∧ fits m = true then m else 0 := by rw [hL, leavesN, ← hm, ← hr]
 rw [← hL]
 have HF := Lib.hid F
 have HL := Lib.hid hLe
 clear F hL hLe hm hr
 rcases hr2 with rfl | rfl
 ·go_enter Tryz.func121, Tryz.ntmps121
  go_wp2_with fail
  go_ret
  exact ⟨retN (by rw [HL.out, if_neg (by omega)]; rfl), rfl⟩
 ·cases hf : fits m with
  | true =>
   have HFT := Lib.hid hf
   have HF2 := HF.out
   rw [hf] at HF2
   have HF3 := Lib.hid HF2
   clear hf HF HF2
   go_enter Tryz.func121, Tryz.ntmps121
   go_wp2_with fail
   refine (HF3.out).mono ?_
   rintro e w' ⟨rfl, rfl⟩
   go_wp2_with fail
   go_ret
   exact ⟨retN (by rw [HL.out, if_pos ⟨by trivial, HFT.out⟩]), rfl⟩
  | false =>
   have HFT := Lib.hid hf
   have HF2 := HF.out
   rw [hf] at HF2
   have HF3 := Lib.hid HF2
   clear hf HF HF2
   go_enter Tryz.func121, Tryz.ntmps121
   go_wp2_with fail
   refine (HF3.out).mono ?_
   rintro e w' ⟨rfl, rfl⟩
   go_wp2_with fail
   go_ret
   exact ⟨retN (by rw [HL.out, if_neg (by rw [HFT.out]; simp)]; rfl), rfl⟩
theorem leaves_none {n : Nat} (h : ∀ d, d ≤ 16 → n + 1 ≠ 2 * 2 ^ d) : leavesN n = 0 := by
 by_cases h0 : leavesN n = 0
 ·exact h0
 ·obtain ⟨d, hd, _, e⟩ := leavesN_pos h0
  exact absurd e (h d hd)
set_option maxRecDepth 100000 in
set_option maxHeartbeats 2000000 in
theorem rleaves_any (a : Option Addr) (n c : Nat) (w : World) (hn : n ≤ 1000000) :
  Calls Tryz.prog 71 #[.slice a n c] w fun e w' => e = .returned (.int .i64 (leavesN n : Nat)) ∧ w' = w := by
 have L1 := fun (d : Nat) (hd : d ≤ 16) (h : n + 1 = 2 * 2 ^ d) => leavesN_pow hd h
 have L2 := fun (h : ∀ d, d < 17 → n + 1 ≠ 2 * 2 ^ d) => leaves_none (n := n) fun d hd => h d (by omega)
 obtain ⟨L, hL⟩ : ∃ L, L = leavesN n := ⟨_, rfl⟩
 rw [← hL] at L1 L2 ⊢
 have H1 := Lib.hid L1
 have H2 := Lib.hid L2
 clear L1 L2 hL
 go_enter Tryz.func71, Tryz.ntmps71
 go_wp2_with fail
 go_loopg [3] 17 (fun q iv wr => ∃ d m : Nat, d + q = 17 ∧ m = 2 ^ d ∧ iv = .int .i64 (m : Nat) ∧ (∀ k, k < d → n + 1 ≠ 2 * 2 ^ k) ∧ wr = w)
 case atStart => exact ⟨0, 1, rfl, rfl, rfl, fun k hk => by omega, rfl⟩
 case round =>
  obtain ⟨d, m, hd, hm, rfl, hno, rfl⟩ := hrel
  have HD := Lib.hid hd
  have HM := Lib.hid hm
  have HNO := Lib.hid hno
  have hmp : 0 < m := by rw [hm]; exact pow_pos' d
  by_cases hlt : d < 17
  ·have hm2 : m ≤ 65536 := by rw [hm]; exact Nat.le_trans (Nat.pow_le_pow_right (by omega) (show d ≤ 16 by omega)) (by decide)
   have hle : decide ((m : Int) ≤ 65536) = true := by rw [decide_eq_true_iff]; omega
   clear hd hm hno
   by_cases he : n + 1 = 2 * m
   ·have hq : (2 * (m : Int) - 1 == (n : Int)) = true := by rw [beq_iff_eq]; omega
    have hq2 : 2 * (m : Int) - 1 = (n : Int) := by omega
    have HE := Lib.hid he
    clear he
    go_wp2_with fail
    go_ret
    exact ⟨retN (by rw [H1.out d (by omega) (by rw [HE.out, HM.out]), HM.out]), rfl⟩
   ·have hq : (2 * (m : Int) - 1 == (n : Int)) = false := by rw [beq_eq_false_iff_ne]; omega
    have HE := Lib.hid he
    clear he
    go_wp2_with fail
    go_roundg (gk - 1)
    case measure => have := HD.out; omega
    case rel =>
     refine ⟨d + 1, 2 * m, by have := HD.out; omega, by rw [HM.out, Nat.pow_succ]; omega, by go_num, fun k hk => ?_, rfl⟩
     by_cases e : k = d
     ·rw [e, ← HM.out]; exact HE.out
     ·exact HNO.out k (by omega)
  ·obtain rfl : d = 17 := by omega
   have hm2 : m = 131072 := by rw [hm]
   have hle : decide ((m : Int) ≤ 65536) = false := by rw [decide_eq_false_iff_not]; omega
   clear hd hm hno
   go_wp2_with fail
   go_ret
   exact ⟨retN (by rw [H2.out HNO.out]; rfl), rfl⟩
set_option maxRecDepth 100000 in
set_option maxHeartbeats 2000000 in
theorem thas_any (v : Value) (L : List Int) (x : Int) (w : World) (h : Rd w v (ivs .i64 L)) :
  Calls Tryz.prog 74 #[v, .int .i64 x] w fun e w' => e = .returned (.bool (decide (x ∈ L))) ∧ w' = w := by
 have hv : ∃ a c, v = .slice a L.length c ∧ c ≤ maxLen ∧ L.length ≤ c := by obtain ⟨a, c, e, h1, h2, _⟩ := h; exact ⟨a, c, by rw [e]; simp [ivs], h2, by simpa [ivs] using h1⟩
 obtain ⟨a, c, rfl, hcm, hlc⟩ := hv
 have G := fun (i : Nat) (hi : i < L.length) => h.at3 (u := .int .i64 (L.getD i 0)) (r := i) (by simp [ivs, List.getD_eq_getElem?_getD, hi])
 have M1 := fun (i : Nat) (hi : i < L.length) (e : L.getD i 0 = x) => (show decide (x ∈ L) = true from decide_eq_true (by
  rw [List.getD_eq_getElem?_getD, List.getElem?_eq_getElem hi] at e
  have : L[i] = x := e
  rw [← this]; exact List.getElem_mem hi))
 have M2 := fun (hno : ∀ i, i < L.length → L.getD i 0 ≠ x) => (show decide (x ∈ L) = false from decide_eq_false (fun hm => by
  obtain ⟨i, hi, e⟩ := List.getElem_of_mem hm
  exact hno i hi (by rw [List.getD_eq_getElem?_getD, List.getElem?_eq_getElem hi]; exact e)))
 obtain ⟨n, hn⟩ : ∃ n, n = L.length := ⟨_, rfl⟩
 obtain ⟨R, hR⟩ : ∃ R, R = decide (x ∈ L) := ⟨_, rfl⟩
 rw [← hn] at G M1 M2 hlc ⊢
 rw [← hR] at M1 M2 ⊢
 have hnm : n ≤ 9223372036854775807 := by unfold maxLen at hcm; omega
 have HG := Lib.hid G
 have HM1 := Lib.hid M1
 have HM2 := Lib.hid M2
 clear G M1 M2 h hn hR hcm
 go_enter Tryz.func74, Tryz.ntmps74
 go_wp2_with fail
 go_loopg [5] n (fun q iv wr => ∃ r : Nat, r + q = n ∧ iv = .int .i64 (r : Nat) ∧ (∀ i, i < r → L.getD i 0 ≠ x) ∧ wr = w)
 case atStart => exact ⟨0, by omega, rfl, fun k hk => by omega, rfl⟩
 case round =>
  obtain ⟨r, hr, rfl, hno, rfl⟩ := hrel
  have HR := Lib.hid hr
  have HNO := Lib.hid hno
  clear hr hno
  by_cases hlt : r < n
  ·have hlt' : decide (r < n) = true := decide_eq_true hlt
   obtain ⟨b, off, rfl, hbl, hcell⟩ := HG.out r hlt
   obtain ⟨y, hy⟩ : ∃ y, y = L.getD r 0 := ⟨_, rfl⟩
   rw [← hy] at hcell
   have HY := Lib.hid hy
   clear hy
   by_cases he : y = x
   ·have hq : (y == x) = true := by rw [beq_iff_eq]; exact he
    have HE := Lib.hid he
    clear he
    go_wp2_with fail
    go_ret
    exact ⟨retB (HM1.out r hlt (by rw [← HY.out]; exact HE.out)), rfl⟩
   ·have hq : (y == x) = false := by rw [beq_eq_false_iff_ne]; exact he
    have HE := Lib.hid he
    clear he
    go_wp2_with fail
    go_roundg (gk - 1)
    case measure => have := HR.out; omega
    case rel =>
     refine ⟨r + 1, by have := HR.out; omega, by go_num, fun i hi => ?_, rfl⟩
     by_cases e : i = r
     ·rw [e, ← HY.out]; exact HE.out
     ·exact HNO.out i (by omega)
  ·obtain rfl : r = n := by have := HR.out; omega
   have hlt' : decide (r < r) = false := decide_eq_false hlt
   go_wp2_with fail
   go_ret
   exact ⟨retB (HM2.out HNO.out), rfl⟩
end Go.Proofs.YtngealmhgkoaiaaGreat
/- Walks: tree.placed, tree.some. -/
namespace Go.Proofs.YtngealmhgkoaiaaGreat
open Go.RowKit WalkM
set_option linter.unusedVariables false
theorem nbytesR_any (d : NodeD) (c : Array Value) (w : World) (h : NodeC w d c) (hk : NodeOk d) (hs : smallB d = true) (r : Bool) (hr : rightB d = r) :
  Calls Tryz.prog 69 #[.agg c] w fun e w' => Below w.heap.size w w' ∧ ∃ v, e = .returned (.tuple #[v, .int .u8 (if r = true then 0 else 3)]) ∧ Own w' w.heap.size 5 v (bvs (if r = true then nodeB d else [])) := by
 subst hr
 cases hr : rightB d with
 | true =>
  have := nbytes_on d c w h hk hs hr
  unfold NBytesP at this
  rw [hr] at this
  exact this
 | false =>
  have := nbytes_off d c w h hs hr
  unfold NBytesP at this
  rw [hr] at this
  exact this
/-- the kind that a node of a place may not be -/
def otherK (x : Nat) : Nat := if x % 2 = 1 then 1 else 2
def placedB (t : List NodeD) : Bool := (List.range t.length).all fun x => decide ((nd t x).kind ≠ otherK x) && rightB (nd t x)
theorem placedB_iff (t : List NodeD) : placedB t = true ↔ ∀ x, x < t.length → (nd t x).kind ≠ otherK x ∧ rightB (nd t x) = true := by
 unfold placedB
 rw [List.all_eq_true]
 constructor
 ·intro h x hx
  have := h x (List.mem_range.2 hx)
  rw [Bool.and_eq_true, decide_eq_true_iff] at this
  exact this
 ·intro h x hx
  rw [Bool.and_eq_true, decide_eq_true_iff]
  exact h x (List.mem_range.1 hx)
theorem placedB_no {t : List NodeD} {x : Nat} (hx : x < t.length) (h : (nd t x).kind = otherK x ∨ rightB (nd t x) = false) : placedB t = false := by
 cases hp : placedB t with
 | false => rfl
 | true =>
  have := (placedB_iff t).1 hp x hx
  rcases h with h | h
  ·exact absurd h this.1
  ·rw [this.2] at h; cases h
theorem otherK_odd {x : Nat} (h : x % 2 = 1) : otherK x = 1 := by unfold otherK; rw [if_pos h]
theorem otherK_even {x : Nat} (h : x % 2 = 0) : otherK x = 2 := by unfold otherK; rw [if_neg (by omega)]
set_option maxRecDepth 100000 in
set_option maxHeartbeats 4000000 in
theorem placed_med (v : Value) (t : List NodeD) (w : World) (h : TreeR w v t) (hs : medT t = true) (hok : TreeOk t) :
  Calls Tryz.prog 130 #[v] w fun e w' => e = .returned (.bool (placedB t)) ∧ Below w.heap.size w w' := by
 obtain ⟨a, c, rfl, hc, hc2⟩ := h.sl
 have NB := fun (i : Nat) (cs : Array Value) (W : World) (r : Bool) (hr : rightB (nd t i) = r) (hw : NodeC W (nd t i) cs) => nbytesR_any (nd t i) cs W hw (hok.nd i) (medT_nd hs i) r hr
 have GN := fun (W : World) (hw : Below w.heap.size w W) (i : Nat) (hi : i < t.length) => (h.below hw (Nat.le_refl _)).node hi
 have S1 := fun (h : ∀ i, i < t.length → (nd t i).kind ≠ otherK i ∧ rightB (nd t i) = true) => (placedB_iff t).2 h
 have S2 := fun (i : Nat) (hi : i < t.length) (h : (nd t i).kind = otherK i ∨ rightB (nd t i) = false) => placedB_no hi h
 have K := fun (i : Nat) => (hok.nd i).kind
 obtain ⟨n, hn⟩ : ∃ n, n = t.length := ⟨_, rfl⟩
 rw [← hn] at GN S1 S2 hc ⊢
 obtain ⟨R, hR⟩ : ∃ R, R = placedB t := ⟨_, rfl⟩
 rw [← hR] at S1 S2 ⊢
 have HNB := Lib.hid NB
 have HGN := Lib.hid GN
 have HS1 := Lib.hid S1
 have HS2 := Lib.hid S2
 have HK := Lib.hid K
 clear NB GN S1 S2 K h hn hR hs hok
 go_enter Tryz.func130, Tryz.ntmps130
 go_wp2_with fail
 go_loopg [10] n (fun q iv wr => ∃ r : Nat, r + q = n ∧ iv = .int .i64 (r : Nat) ∧ (∀ i, i < r → (nd t i).kind ≠ otherK i ∧ rightB (nd t i) = true) ∧ Below w.heap.size w wr)
 case atStart => exact ⟨0, by omega, rfl, fun i hi => by omega, Below.refl _ _⟩
 case round =>
  obtain ⟨r, hr, rfl, hsm, hb⟩ := hrel
  have HR := Lib.hid hr
  have HM := Lib.hid hsm
  have HB := Lib.hid hb
  clear hr hsm hb
  by_cases hlt : r < n
  ·have hlt' : decide (r < n) = true := decide_eq_true hlt
   obtain ⟨b, off, cs, rfl, hbl, hnc, hra⟩ := HGN.out wr HB.out r hlt
   obtain ⟨D, hD⟩ : ∃ D, D = nd t r := ⟨_, rfl⟩
   have hkd := HK.out r
   have HND := Lib.hid hnc
   rw [← hD] at hnc hkd
   obtain ⟨a1, c1, a2, c2, a3, c3, a4, c4, a5, c5, b1, e1, b2, e2, b3, e3, hcs, h1, h2, h3, h4, h5, h6, h7, h8⟩ := hnc
   obtain ⟨kd, hkd'⟩ : ∃ k, k = D.kind := ⟨_, rfl⟩
   rw [← hkd'] at hcs hkd
   have HKD := Lib.hid (show kd = (nd t r).kind by rw [hkd', hD])
   have HRA := Lib.hid hra
   have HCS := Lib.hid hcs
   have hsz := HB.out.size
   obtain ⟨l1, hl1⟩ : ∃ l, l = D.leaf.box.length := ⟨_, rfl⟩
   obtain ⟨l2, hl2⟩ : ∃ l, l = D.leaf.sign.length := ⟨_, rfl⟩
   obtain ⟨l3, hl3⟩ : ∃ l, l = D.leaf.ident.length := ⟨_, rfl⟩
   obtain ⟨l4, hl4⟩ : ∃ l, l = D.leaf.par.length := ⟨_, rfl⟩
   obtain ⟨l5, hl5⟩ : ∃ l, l = D.leaf.sig.length := ⟨_, rfl⟩
   obtain ⟨l6, hl6⟩ : ∃ l, l = D.par.box.length := ⟨_, rfl⟩
   obtain ⟨l7, hl7⟩ : ∃ l, l = D.par.hash.length := ⟨_, rfl⟩
   obtain ⟨l8, hl8⟩ : ∃ l, l = D.par.late.length := ⟨_, rfl⟩
   obtain ⟨s, hsrc⟩ : ∃ s, s = D.leaf.source := ⟨_, rfl⟩
   rw [← hl1, ← hl2, ← hl3, ← hl4, ← hl5, ← hl6, ← hl7, ← hl8, ← hsrc] at hcs
   subst hcs
   clear h1 h2 h3 h4 h5 h6 h7 h8 hra HCS hl1 hl2 hl3 hl4 hl5 hl6 hl7 hl8 hsrc hkd' hD
   obtain ⟨m, hm⟩ : ∃ m, m = r % 2 := ⟨_, rfl⟩
   have e3' : (r : Int) % 2 = (m : Int) := by omega
   have e4' : Int.tmod (r : Int) 2 = (m : Int) := by rw [Int.tmod_eq_emod_of_nonneg (by omega)]; omega
   have hm2 : m = 0 ∨ m = 1 := by omega
   have HMM := Lib.hid hm
   clear hm
   rcases hm2 with rfl | rfl
   ·have HOK := Lib.hid (otherK_even HMM.out.symm)
    have HBA := Lib.hid (HB.out.alloc HB.out.size (.cells #[.int .u8 (kd : Nat), .slice a1 l1 c1, .slice a2 l2 c2, .slice a3 l3 c3, .int .u8 (s : Nat), .slice a4 l4 c4, .slice a5 l5 c5, .slice b1 l6 e1, .slice b2 l7 e2, .slice b3 l8 e3] 54))
    by_cases hk : kd = 2
    ·have hq : ((kd : Int) == 2) = true := by rw [beq_iff_eq]; omega
     have HF := Lib.hid (HS2.out r hlt (.inl (by rw [← HKD.out, HOK.out, hk])))
     clear hk
     go_wp2_with (refine wpList_load_mid rfl 54 (.tmp 13) rfl b (off + r * 10) rfl [.int .u8 (kd : Nat), .slice a1 l1 c1, .slice a2 l2 c2, .slice a3 l3 c3, .int .u8 (s : Nat), .slice a4 l4 c4, .slice a5 l5 c5, .slice b1 l6 e1, .slice b2 l7 e2, .slice b3 l8 e3] _ HRA.out Tryz.underlying54 rfl node_info ?_)
     go_ret
     exact ⟨retB HF.out, HBA.out⟩
    ·have hq : ((kd : Int) == 2) = false := by rw [beq_eq_false_iff_ne]; omega
     have hq2 : (kd : Int) ≠ 2 := by omega
     have HKN := Lib.hid (show (nd t r).kind ≠ otherK r by rw [← HKD.out, HOK.out]; exact hk)
     have HNDA := Lib.hid (HND.out.below ((Below.refl wr.heap.size wr).alloc (Nat.le_refl _) (.cells #[.int .u8 (kd : Nat), .slice a1 l1 c1, .slice a2 l2 c2, .slice a3 l3 c3, .int .u8 (s : Nat), .slice a4 l4 c4, .slice a5 l5 c5, .slice b1 l6 e1, .slice b2 l7 e2, .slice b3 l8 e3] 54)) (Nat.le_refl _))
     cases hrb : rightB (nd t r) with
     | true =>
      have HRB := Lib.hid hrb
      have N1 := Lib.hid (HNB.out r _ _ true hrb HNDA.out)
      clear hrb hk
      go_wp2_with (refine wpList_load_mid rfl 54 (.tmp 13) rfl b (off + r * 10) rfl [.int .u8 (kd : Nat), .slice a1 l1 c1, .slice a2 l2 c2, .slice a3 l3 c3, .int .u8 (s : Nat), .slice a4 l4 c4, .slice a5 l5 c5, .slice b1 l6 e1, .slice b2 l7 e2, .slice b3 l8 e3] _ HRA.out Tryz.underlying54 rfl node_info ?_)
      refine (N1.out).mono ?_
      rintro e w2 ⟨hb2, v, rfl, hown⟩
      have HB2 := Lib.hid (HBA.out.trans (hb2.mono HBA.out.size))
      obtain ⟨y1, y2, y3, rfl⟩ := slOf hown
      clear hb2 hown
      go_wp2_with fail
      go_roundg (gk - 1)
      case measure => have := HR.out; omega
      case rel =>
       refine ⟨r + 1, by have := HR.out; omega, by go_num, fun i hi => ?_, HB2.out⟩
       by_cases e : i = r
       ·rw [e]; exact ⟨HKN.out, HRB.out⟩
       ·exact HM.out i (by omega)
     | false =>
      have HF := Lib.hid (HS2.out r hlt (.inr hrb))
      have N1 := Lib.hid (HNB.out r _ _ false hrb HNDA.out)
      clear hrb hk
      go_wp2_with (refine wpList_load_mid rfl 54 (.tmp 13) rfl b (off + r * 10) rfl [.int .u8 (kd : Nat), .slice a1 l1 c1, .slice a2 l2 c2, .slice a3 l3 c3, .int .u8 (s : Nat), .slice a4 l4 c4, .slice a5 l5 c5, .slice b1 l6 e1, .slice b2 l7 e2, .slice b3 l8 e3] _ HRA.out Tryz.underlying54 rfl node_info ?_)
      refine (N1.out).mono ?_
      rintro e w2 ⟨hb2, v, rfl, hown⟩
      have HB2 := Lib.hid (HBA.out.trans (hb2.mono HBA.out.size))
      obtain ⟨y1, y2, y3, rfl⟩ := slOf hown
      clear hb2 hown
      go_wp2_with fail
      go_ret
      exact ⟨retB HF.out, HB2.out⟩
   ·have HOK := Lib.hid (otherK_odd HMM.out.symm)
    have HBA := Lib.hid (HB.out.alloc HB.out.size (.cells #[.int .u8 (kd : Nat), .slice a1 l1 c1, .slice a2 l2 c2, .slice a3 l3 c3, .int .u8 (s : Nat), .slice a4 l4 c4, .slice a5 l5 c5, .slice b1 l6 e1, .slice b2 l7 e2, .slice b3 l8 e3] 54))
    by_cases hk : kd = 1
    ·have hq : ((kd : Int) == 1) = true := by rw [beq_iff_eq]; omega
     have HF := Lib.hid (HS2.out r hlt (.inl (by rw [← HKD.out, HOK.out, hk])))
     clear hk
     go_wp2_with (refine wpList_load_mid rfl 54 (.tmp 13) rfl b (off + r * 10) rfl [.int .u8 (kd : Nat), .slice a1 l1 c1, .slice a2 l2 c2, .slice a3 l3 c3, .int .u8 (s : Nat), .slice a4 l4 c4, .slice a5 l5 c5, .slice b1 l6 e1, .slice b2 l7 e2, .slice b3 l8 e3] _ HRA.out Tryz.underlying54 rfl node_info ?_)
     go_ret
     exact ⟨retB HF.out, HBA.out⟩
    ·have hq : ((kd : Int) == 1) = false := by rw [beq_eq_false_iff_ne]; omega
     have hq2 : (kd : Int) ≠ 1 := by omega
     have HKN := Lib.hid (show (nd t r).kind ≠ otherK r by rw [← HKD.out, HOK.out]; exact hk)
     have HNDA := Lib.hid (HND.out.below ((Below.refl wr.heap.size wr).alloc (Nat.le_refl _) (.cells #[.int .u8 (kd : Nat), .slice a1 l1 c1, .slice a2 l2 c2, .slice a3 l3 c3, .int .u8 (s : Nat), .slice a4 l4 c4, .slice a5 l5 c5, .slice b1 l6 e1, .slice b2 l7 e2, .slice b3 l8 e3] 54)) (Nat.le_refl _))
     cases hrb : rightB (nd t r) with
     | true =>
      have HRB := Lib.hid hrb
      have N1 := Lib.hid (HNB.out r _ _ true hrb HNDA.out)
      clear hrb hk
      go_wp2_with (refine wpList_load_mid rfl 54 (.tmp 13) rfl b (off + r * 10) rfl [.int .u8 (kd : Nat), .slice a1 l1 c1, .slice a2 l2 c2, .slice a3 l3 c3, .int .u8 (s : Nat), .slice a4 l4 c4, .slice a5 l5 c5, .slice b1 l6 e1, .slice b2 l7 e2, .slice b3 l8 e3] _ HRA.out Tryz.underlying54 rfl node_info ?_)
      refine (N1.out).mono ?_
      rintro e w2 ⟨hb2, v, rfl, hown⟩
      have HB2 := Lib.hid (HBA.out.trans (hb2.mono HBA.out.size))
      obtain ⟨y1, y2, y3, rfl⟩ := slOf hown
      clear hb2 hown
      go_wp2_with fail
      go_roundg (gk - 1)
      case measure => have := HR.out; omega
      case rel =>
       refine ⟨r + 1, by have := HR.out; omega, by go_num, fun i hi => ?_, HB2.out⟩
       by_cases e : i = r
       ·rw [e]; exact ⟨HKN.out, HRB.out⟩
       ·exact HM.out i (by omega)
     | false =>
      have HF := Lib.hid (HS2.out r hlt (.inr hrb))
      have N1 := Lib.hid (HNB.out r _ _ false hrb HNDA.out)
      clear hrb hk
      go_wp2_with (refine wpList_load_mid rfl 54 (.tmp 13) rfl b (off + r * 10) rfl [.int .u8 (kd : Nat), .slice a1 l1 c1, .slice a2 l2 c2, .slice a3 l3 c3, .int .u8 (s : Nat), .slice a4 l4 c4, .slice a5 l5 c5, .slice b1 l6 e1, .slice b2 l7 e2, .slice b3 l8 e3] _ HRA.out Tryz.underlying54 rfl node_info ?_)
      refine (N1.out).mono ?_
      rintro e w2 ⟨hb2, v, rfl, hown⟩
      have HB2 := Lib.hid (HBA.out.trans (hb2.mono HBA.out.size))
      obtain ⟨y1, y2, y3, rfl⟩ := slOf hown
      clear hb2 hown
      go_wp2_with fail
      go_ret
      exact ⟨retB HF.out, HB2.out⟩
  ·obtain rfl : r = n := by have := HR.out; omega
   have hlt' : decide (r < r) = false := decide_eq_false hlt
   go_wp2_with fail
   go_ret
   exact ⟨retB (HS1.out HM.out), HB.out⟩
end Go.Proofs.YtngealmhgkoaiaaGreat
/- Walks: cmp.Less, slices.BinarySearch of rising numbers. -/
namespace Go.Proofs.YtngealmhgkoaiaaGreat
open Go.RowKit WalkM
set_option linter.unusedVariables false
theorem retP {v : Value} {a b : Bool} (h : a = b) : Ending.returned (.tuple #[v, .bool b]) = .returned (.tuple #[v, .bool a]) := by rw [h]
theorem cnan_any (x : Int) (w : World) : Calls Tryz.prog 236 #[.int .i64 x] w fun e w' => e = .returned (.bool false) ∧ w' = w := by
 have h : (x != x) = false := by rw [bne_eq_false_iff_eq]
 go_enter Tryz.func236, Tryz.ntmps236
 go_wp2_with fail
 go_ret
 exact ⟨rfl, rfl⟩
theorem snan_any (x : Int) (w : World) : Calls Tryz.prog 192 #[.int .i64 x] w fun e w' => e = .returned (.bool false) ∧ w' = w := by
 have h : (x != x) = false := by rw [bne_eq_false_iff_eq]
 go_enter Tryz.func192, Tryz.ntmps192
 go_wp2_with fail
 go_ret
 exact ⟨rfl, rfl⟩
theorem cless_any (x y : Int) (w : World) : Calls Tryz.prog 191 #[.int .i64 x, .int .i64 y] w fun e w' => e = .returned (.bool (decide (x < y))) ∧ w' = w := by
 obtain ⟨b, hb⟩ : ∃ b, decide (x < y) = b := ⟨_, rfl⟩
 rw [hb]
 go_enter Tryz.func191, Tryz.ntmps191
 go_wp2_with fail
 refine (cnan_any x w).mono ?_
 rintro e w' ⟨rfl, rfl⟩
 go_wp2_with fail
 go_ret
 exact ⟨rfl, rfl⟩
/-- rising numbers -/
def SortI (L : List Int) : Prop := ∀ i j, i < j → j < L.length → L.getD i 0 < L.getD j 0
set_option maxRecDepth 100000 in
set_option maxHeartbeats 2000000 in
theorem bsearch_any (v : Value) (L : List Int) (x : Int) (w : World) (h : Rd w v (ivs .i64 L)) (hs : SortI L) (hl : L.length ≤ 1000000) :
  Calls Tryz.prog 125 #[v, .int .i64 x] w fun e w' => ∃ p : Nat, e = .returned (.tuple #[.int .i64 (p : Nat), .bool (decide (x ∈ L))]) ∧ p ≤ L.length ∧ (∀ k, k < p → L.getD k 0 < x) ∧ (∀ k, p ≤ k → k < L.length → x ≤ L.getD k 0) ∧ w' = w := by
 have hv : ∃ a c, v = .slice a L.length c := by obtain ⟨a, c, e, h1, h2, _⟩ := h; exact ⟨a, c, by rw [e]; simp [ivs]⟩
 obtain ⟨a, c, rfl⟩ := hv
 have G := fun (i : Nat) (hi : i < L.length) => h.at3 (u := .int .i64 (L.getD i 0)) (r := i) (by simp [ivs, List.getD_eq_getElem?_getD, hi])
 have hs2 : ∀ i j, i ≤ j → j < L.length → L.getD i 0 ≤ L.getD j 0 := by
  intro i j hij hj
  by_cases e : i = j
  ·rw [e]; exact Int.le_refl _
  ·exact Int.le_of_lt (hs i j (by omega) hj)
 have M1 := fun (i : Nat) (hi : i < L.length) (e : L.getD i 0 = x) => (show decide (x ∈ L) = true from decide_eq_true (by
  rw [List.getD_eq_getElem?_getD, List.getElem?_eq_getElem hi] at e
  have : L[i] = x := e
  rw [← this]; exact List.getElem_mem hi))
 have M2 := fun (hno : ∀ i, i < L.length → L.getD i 0 ≠ x) => (show decide (x ∈ L) = false from decide_eq_false (fun hm => by
  obtain ⟨i, hi, e⟩ := List.getElem_of_mem hm
  exact hno i hi (by rw [List.getD_eq_getElem?_getD, List.getElem?_eq_getElem hi]; exact e)))
 obtain ⟨n, hn⟩ : ∃ n, n = L.length := ⟨_, rfl⟩
 obtain ⟨R, hR⟩ : ∃ R, R = decide (x ∈ L) := ⟨_, rfl⟩
 rw [← hn] at G M1 M2 hs2 hl
 simp only [← hn]
 rw [← hR] at M1 M2 ⊢
 have HG := Lib.hid G
 have HM1 := Lib.hid M1
 have HM2 := Lib.hid M2
 have HS2 := Lib.hid hs2
 clear G M1 M2 h hn hR hs hs2
 go_enter Tryz.func125, Tryz.ntmps125
 go_wp2_with fail
 go_loopg [7, 8] n (fun q iv jv wr => ∃ i j : Nat, i + q = j ∧ j ≤ n ∧ iv = .int .i64 (i : Nat) ∧ jv = .int .i64 (j : Nat) ∧ (∀ k, k < i → L.getD k 0 < x) ∧ (∀ k, j ≤ k → k < n → x ≤ L.getD k 0) ∧ wr = w)
 case atStart => exact ⟨0, n, by omega, Nat.le_refl _, rfl, rfl, fun k hk => by omega, fun k h1 h2 => by omega, rfl⟩
 case round =>
  obtain ⟨i, j, hij, hjn, rfl, rfl, hlo, hhi, rfl⟩ := hrel
  have HIJ := Lib.hid hij
  have HLO := Lib.hid hlo
  have HHI := Lib.hid hhi
  clear hij hlo hhi
  by_cases hlt : i < j
  ·have hlt' : decide (i < j) = true := decide_eq_true hlt
   obtain ⟨m, hm⟩ : ∃ m, m = (i + j) / 2 := ⟨_, rfl⟩
   obtain ⟨s, hs⟩ : ∃ s, s = i + j := ⟨_, rfl⟩
   have e1 : (i : Int) + (j : Int) = (s : Int) := by omega
   have e2 : IntKind.u64.wrap (s : Int) = (s : Int) := by rw [IntKind.wrap_u64]; omega
   have e3 : (s : Int) / 2 = (m : Int) := by omega
   have e4 : IntKind.i64.wrap (m : Int) = (m : Int) := by rw [IntKind.wrap_i64]; omega
   have hmn : m < n := by omega
   obtain ⟨b, off, rfl, hbl, hcell⟩ := HG.out m hmn
   obtain ⟨y, hy⟩ : ∃ y, y = L.getD m 0 := ⟨_, rfl⟩
   rw [← hy] at hcell
   have HY := Lib.hid hy
   have HMM := Lib.hid hm
   have HSS := Lib.hid hs
   have CL := cless_any y x wr
   by_cases hyx : y < x
   ·rw [decide_eq_true hyx] at CL
    have HCL := Lib.hid CL
    have HYX := Lib.hid hyx
    clear hy hm hs CL hyx
    go_wp2_with fail
    refine (HCL.out).mono ?_
    rintro e w' ⟨rfl, rfl⟩
    go_wp2_with fail
    go_roundg (j - (m + 1))
    case measure => have := HIJ.out; have := HMM.out; omega
    case rel =>
     refine ⟨m + 1, j, by have := HMM.out; omega, hjn, by go_num, rfl, fun k hk => ?_, HHI.out, rfl⟩
     have := HS2.out k m (by omega) hmn
     have := HYX.out
     rw [HY.out] at this
     omega
   ·rw [decide_eq_false hyx] at CL
    have HCL := Lib.hid CL
    have HYX := Lib.hid hyx
    clear hy hm hs CL hyx
    go_wp2_with fail
    refine (HCL.out).mono ?_
    rintro e w' ⟨rfl, rfl⟩
    go_wp2_with fail
    go_roundg (m - i)
    case measure => have := HIJ.out; have := HMM.out; omega
    case rel =>
     refine ⟨i, m, by have := HMM.out; omega, by omega, rfl, rfl, HLO.out, fun k h1 h2 => ?_, rfl⟩
     have := HS2.out m k h1 h2
     have := HYX.out
     rw [HY.out] at this
     omega
  ·have hlt' : decide (i < j) = false := decide_eq_false hlt
   by_cases hin : i < n
   ·have hin' : decide (i < n) = true := decide_eq_true hin
    obtain ⟨b, off, rfl, hbl, hcell⟩ := HG.out i hin
    obtain ⟨y, hy⟩ : ∃ y, y = L.getD i 0 := ⟨_, rfl⟩
    rw [← hy] at hcell
    have HY := Lib.hid hy
    clear hy
    by_cases he : y = x
    ·have hq : (y == x) = true := by rw [beq_iff_eq]; exact he
     have HF := Lib.hid (HM1.out i hin (by rw [← HY.out]; exact he))
     clear he
     go_wp2_with fail
     go_ret2
     exact ⟨i, retP HF.out, by have := HIJ.out; omega, HLO.out, fun k h1 h2 => HHI.out k (by omega) h2, rfl⟩
    ·have hq : (y == x) = false := by rw [beq_eq_false_iff_ne]; exact he
     have HF := Lib.hid (HM2.out (fun k hk e => by
      by_cases h1 : k < i
      ·have := HLO.out k h1; omega
      ·by_cases h2 : k = i
       ·rw [h2] at e; exact he (HY.out.trans e)
       ·have h3 := HS2.out i k (by omega) hk
        have h4 := HHI.out i (by omega) hin
        have := HY.out
        omega))
     clear he
     have N1 := Lib.hid (snan_any y wr)
     go_wp2_with fail
     refine (N1.out).mono ?_
     rintro e w' ⟨rfl, rfl⟩
     go_wp2_with fail
     go_ret2
     exact ⟨i, retP HF.out, by have := HIJ.out; omega, HLO.out, fun k h1 h2 => HHI.out k (by omega) h2, rfl⟩
   ·have hin' : decide (i < n) = false := decide_eq_false hin
    have HF := Lib.hid (HM2.out (fun k hk e => by have := HLO.out k (by omega); omega))
    go_wp2_with fail
    go_ret2
    exact ⟨i, retP HF.out, by have := HIJ.out; omega, HLO.out, fun k h1 h2 => HHI.out k (by omega) h2, rfl⟩
end Go.Proofs.YtngealmhgkoaiaaGreat
/- Walks: tree.some, by the library's ContainsFunc. -/
namespace Go.Proofs.YtngealmhgkoaiaaGreat
open Go.RowKit WalkM
set_option linter.unusedVariables false
def someK (t : List NodeD) : Bool := t.any fun d => d.kind == 1
theorem someK_yes {t : List NodeD} {i : Nat} (hi : i < t.length) (h : (nd t i).kind = 1) : someK t = true := by
 unfold someK
 rw [List.any_eq_true]
 refine ⟨t[i], List.getElem_mem hi, ?_⟩
 rw [nd, List.getD_eq_getElem?_getD, List.getElem?_eq_getElem hi] at h
 rw [beq_iff_eq]; exact h
theorem someK_no {t : List NodeD} (h : ∀ i, i < t.length → (nd t i).kind ≠ 1) : someK t = false := by
 cases hs : someK t with
 | false => rfl
 | true =>
  unfold someK at hs
  rw [List.any_eq_true] at hs
  obtain ⟨d, hd, hk⟩ := hs
  obtain ⟨i, hi, rfl⟩ := List.getElem_of_mem hd
  have := h i hi
  rw [nd, List.getD_eq_getElem?_getD, List.getElem?_eq_getElem hi] at this
  exact absurd (beq_iff_eq.1 hk) this
set_option maxRecDepth 100000 in
set_option maxHeartbeats 2000000 in
theorem some1_any (d : NodeD) (c : Array Value) (w : World) (h : NodeC w d c) (hk : d.kind < 256) :
  Calls Tryz.prog 197 #[.agg c] w fun e w' => e = .returned (.bool (d.kind == 1)) ∧ Below w.heap.size w w' := by
 obtain ⟨a1, c1, a2, c2, a3, c3, a4, c4, a5, c5, b1, e1, b2, e2, b3, e3, rfl, _⟩ := h
 obtain ⟨k, hk'⟩ : ∃ k, k = d.kind := ⟨_, rfl⟩
 rw [← hk'] at hk ⊢
 have e : ((k : Int) == 1) = (k == 1) := by
  by_cases h : k = 1
  ·subst h; rfl
  ·rw [beq_eq_false_iff_ne.2 h, beq_eq_false_iff_ne]; omega
 obtain ⟨b, hb⟩ : ∃ b, b = (k == 1) := ⟨_, rfl⟩
 rw [← hb] at e ⊢
 clear hb hk'
 go_enter Tryz.func197, Tryz.ntmps197
 go_wp2_with fail
 go_ret
 exact ⟨rfl, (Below.refl _ _).alloc (Nat.le_refl _) _⟩
set_option maxRecDepth 100000 in
set_option maxHeartbeats 2000000 in
theorem idxSome_any (v : Value) (t : List NodeD) (w : World) (h : TreeR w v t) (hok : TreeOk t) :
  Calls Tryz.prog 238 #[v, .func (.func 197) #[] #[]] w fun e w' => ∃ r : Int, e = .returned (.int .i64 r) ∧ decide (r ≥ 0) = someK t ∧ Below w.heap.size w w' := by
 obtain ⟨a, c, rfl, hc, hc2⟩ := h.sl
 have SM := fun (i : Nat) (cs : Array Value) (W : World) (hw : NodeC W (nd t i) cs) => some1_any (nd t i) cs W hw (hok.nd i).kind
 have GN := fun (W : World) (hw : Below w.heap.size w W) (i : Nat) (hi : i < t.length) => (h.below hw (Nat.le_refl _)).node hi
 have S1 := fun (i : Nat) (hi : i < t.length) (h : (nd t i).kind = 1) => someK_yes hi h
 have S2 := fun (h : ∀ i, i < t.length → (nd t i).kind ≠ 1) => someK_no h
 obtain ⟨n, hn⟩ : ∃ n, n = t.length := ⟨_, rfl⟩
 obtain ⟨R, hR⟩ : ∃ R, R = someK t := ⟨_, rfl⟩
 rw [← hn] at GN S1 S2 hc ⊢
 rw [← hR] at S1 S2 ⊢
 have HSM := Lib.hid SM
 have HGN := Lib.hid GN
 have HS1 := Lib.hid S1
 have HS2 := Lib.hid S2
 clear SM GN S1 S2 h hn hR hok
 go_enter Tryz.func238, Tryz.ntmps238
 go_wp2_with fail
 go_loopg [8] n (fun q iv wr => ∃ r : Nat, r + q = n ∧ iv = .int .i64 (r : Nat) ∧ (∀ i, i < r → (nd t i).kind ≠ 1) ∧ Below w.heap.size w wr)
 case atStart => exact ⟨0, by omega, rfl, fun i hi => by omega, Below.refl _ _⟩
 case round =>
  obtain ⟨r, hr, rfl, hsm, hb⟩ := hrel
  have HR := Lib.hid hr
  have HM := Lib.hid hsm
  have HB := Lib.hid hb
  clear hr hsm hb
  by_cases hlt : r < n
  ·have hlt' : decide (r < n) = true := decide_eq_true hlt
   obtain ⟨b, off, cs, rfl, hbl, hnc, hra⟩ := HGN.out wr HB.out r hlt
   have HRA := Lib.hid hra
   have HSZ := Lib.hid hnc.size
   have CC := HSM.out r cs wr hnc
   cases hk : ((nd t r).kind == 1) with
   | true =>
    rw [hk] at CC
    have HCC := Lib.hid CC
    have HF := Lib.hid (HS1.out r hlt (beq_iff_eq.1 hk))
    clear CC hk hra hnc
    go_wp2_with (refine wpList_load_mid rfl 54 (.tmp 14) rfl b (off + r * 10) rfl cs.toList _ HRA.out Tryz.underlying54 rfl (by rw [Array.length_toList, HSZ.out]; exact node_info) ?_)
    refine (HCC.out).mono ?_
    rintro e w2 ⟨rfl, hb2⟩
    have HB2 := Lib.hid (HB.out.trans (hb2.mono HB.out.size))
    clear hb2
    go_wp2_with fail
    go_ret
    exact ⟨(r : Nat), rfl, by rw [HF.out, decide_eq_true_iff]; omega, HB2.out⟩
   | false =>
    rw [hk] at CC
    have HCC := Lib.hid CC
    have HF := Lib.hid (beq_eq_false_iff_ne.1 hk)
    clear CC hk hra hnc
    go_wp2_with (refine wpList_load_mid rfl 54 (.tmp 14) rfl b (off + r * 10) rfl cs.toList _ HRA.out Tryz.underlying54 rfl (by rw [Array.length_toList, HSZ.out]; exact node_info) ?_)
    refine (HCC.out).mono ?_
    rintro e w2 ⟨rfl, hb2⟩
    have HB2 := Lib.hid (HB.out.trans (hb2.mono HB.out.size))
    clear hb2
    go_wp2_with fail
    go_roundg (gk - 1)
    case measure => have := HR.out; omega
    case rel =>
     refine ⟨r + 1, by have := HR.out; omega, by go_num, fun i hi => ?_, HB2.out⟩
     by_cases e : i = r
     ·rw [e]; exact HF.out
     ·exact HM.out i (by omega)
  ·obtain rfl : r = n := by have := HR.out; omega
   have hlt' : decide (r < r) = false := decide_eq_false hlt
   go_wp2_with fail
   go_ret
   exact ⟨-1, rfl, by rw [HS2.out HM.out]; rfl, HB.out⟩
set_option maxRecDepth 100000 in
set_option maxHeartbeats 2000000 in
theorem tsome_any (v : Value) (t : List NodeD) (w : World) (h : TreeR w v t) (hok : TreeOk t) :
  Calls Tryz.prog 131 #[v] w fun e w' => e = .returned (.bool (someK t)) ∧ Below w.heap.size w w' := by
 have IX := idxSome_any v t w h hok
 have CF : Calls Tryz.prog 196 #[v, .func (.func 197) #[] #[]] w fun e w' => e = .returned (.bool (someK t)) ∧ Below w.heap.size w w' := by
  obtain ⟨a, c, rfl, hc, hc2⟩ := h.sl
  have HIX := Lib.hid IX
  obtain ⟨R, hR⟩ : ∃ R, R = someK t := ⟨_, rfl⟩
  rw [← hR] at HIX ⊢
  obtain ⟨n, hn⟩ : ∃ n, n = t.length := ⟨_, rfl⟩
  rw [← hn] at HIX ⊢
  clear IX h hR hn hc hc2 hok
  go_enter Tryz.func196, Tryz.ntmps196
  go_wp2_with fail
  refine (HIX.out).mono ?_
  rintro e w2 ⟨r, rfl, hr, hb⟩
  have HB := Lib.hid hb
  have HR := Lib.hid hr
  clear hb hr
  go_wp2_with fail
  go_ret
  exact ⟨retB HR.out.symm, HB.out⟩
 obtain ⟨a, c, rfl, hc, hc2⟩ := h.sl
 have HCF := Lib.hid CF
 obtain ⟨R, hR⟩ : ∃ R, R = someK t := ⟨_, rfl⟩
 rw [← hR] at HCF ⊢
 obtain ⟨n, hn⟩ : ∃ n, n = t.length := ⟨_, rfl⟩
 rw [← hn] at HCF ⊢
 clear IX CF h hR hn hc hc2 hok
 go_enter Tryz.func131, Tryz.ntmps131
 go_wp2_with fail
 refine (HCF.out).mono ?_
 rintro e w2 ⟨rfl, hb⟩
 have HB := Lib.hid hb
 clear hb
 go_wp2_with fail
 go_ret
 exact ⟨rfl, HB.out⟩
end Go.Proofs.YtngealmhgkoaiaaGreat
