/- Trees as data: a slice of nodes as it reads; how many leaves; walks of what looks at a tree's size. -/
import Derived.Test.YtngealmhgkoaiaaGreatZSliceCutsB
import Derived.Test.YtngealmhgkoaiaaGreatZSliceCuts13
import Derived.Test.YtngealmhgkoaiaaGreatZSliceCuts15
import Derived.Deep.MidRow
import Derived.Test.YtngealmhgkoaiaaGreatZSliceCuts03
import Derived.Test.YtngealmhgkoaiaaGreatZSliceCuts09
open List renaming getD_eq_getElem?_getD → aH, getElem?_eq_getElem → aI, getElem_mem → aJ, getElem?_eq_none → aK, getElem_of_mem → dE, any_eq_true → bZ
open Bool renaming and_eq_true → cE
open Array renaming length_toList → dF
open Int renaming tmod → dG, tmod_eq_emod_of_nonneg → dH
set_option linter.unusedVariables false
set_option maxRecDepth 100000
set_option maxHeartbeats 40000000
namespace Go.Proofs.YtngealmhgkoaiaaGreat
open Go.RowKit
theorem Da {a b : Bool} (h : a = b) : Ending.returned (.bool b) = .returned (.bool a) := by rw [h]
theorem Zgh {k : IntKind} {a b : Int} (h : a = b) : Ending.returned (.int k b) = .returned (.int k a) := by rw [h]
def nd (t : List NodeD) (i : Nat) : NodeD := t.getD i Be
def TreeR (w : World) (v : Value) (t : List NodeD) : Prop :=
 ∃ a cap, v = .slice a t.length cap ∧ t.length ≤ cap ∧ cap ≤ maxLen ∧ ∀ i, i < t.length → ∃ b off c, a = some ⟨b, off, none⟩ ∧ b < w.heap.size ∧ NodeC w (nd t i) c ∧ w.rangeAt b (off + i * 10) c.toList
theorem Ai {w w' : World} {B b o : Nat} {cs : List Value} (h : w.rangeAt b o cs) (hb : Below B w w') (hB : b < B) : w'.rangeAt b o cs := by
 intro j u hu; exact (hb.cell (p := ⟨b, o + j, none⟩) hB).trans (h j u hu)
theorem TreeR.below {w w' : World} {B : Nat} {v : Value} {t : List NodeD} (h : TreeR w v t) (hb : Below B w w') (hB : w.heap.size ≤ B) : TreeR w' v t := by
 obtain ⟨a, cap, e, h1, h2, h3⟩ := h; refine ⟨a, cap, e, h1, h2, fun i hi => ?_⟩; obtain ⟨b, off, c, e, hl, hn, hr⟩ := h3 i hi; exact ⟨b, off, c, e, Nat.lt_of_lt_of_le hl hb.size, hn.below hb hB, Ai hr hb (by omega)⟩
theorem TreeR.nil (w : World) : TreeR w (.slice none 0 0) [] := ⟨none, 0, rfl, lR, Nat.zero_le _, fun i hi => absurd hi (by simp)⟩
theorem TreeR.sl {w : World} {v : Value} {t : List NodeD} (h : TreeR w v t) : ∃ a c, v = .slice a t.length c ∧ t.length ≤ c ∧ c ≤ 9223372036854775807 := by
 obtain ⟨a, cap, e, h1, h2, _⟩ := h; unfold maxLen at h2; exact ⟨a, cap, e, h1, h2⟩
theorem TreeR.node {w : World} {a : Option Addr} {n c : Nat} {t : List NodeD} (h : TreeR w (.slice a n c) t) {i : Nat} (hi : i < n) : ∃ b off cs, a = some ⟨b, off, none⟩ ∧ b < w.heap.size ∧ NodeC w (nd t i) cs ∧ w.rangeAt b (off + i * 10) cs.toList := by
 obtain ⟨a', cap, e, h1, h2, h3⟩ := h; simp only [Value.slice.injEq] at e; obtain ⟨rfl, rfl, rfl⟩ := e; exact h3 i hi
theorem NodeC.size {w : World} {d : NodeD} {c : Array Value} (h : NodeC w d c) : c.size = 10 := by
 obtain ⟨a1, c1, a2, c2, a3, c3, a4, c4, a5, c5, b1, e1, b2, e2, b3, e3, rfl, _⟩ := h; rfl
theorem NodeC.kind {w : World} {d : NodeD} {c : Array Value} (h : NodeC w d c) : c.toList[0]? = some (.int .u8 (d.kind : Nat)) := by
 obtain ⟨a1, c1, a2, c2, a3, c3, a4, c4, a5, c5, b1, e1, b2, e2, b3, e3, rfl, _⟩ := h; rfl
theorem NodeC.late {w : World} {d : NodeD} {c : Array Value} (h : NodeC w d c) : ∃ b e, c.toList[9]? = some (.slice b d.par.late.length e) ∧ Rd w (.slice b d.par.late.length e) (ivs .i64 d.par.late) := by
 obtain ⟨a1, c1, a2, c2, a3, c3, a4, c4, a5, c5, b1, e1, b2, e2, b3, e3, rfl, h1, h2, h3, h4, h5, h6, h7, h8⟩ := h; exact ⟨b3, e3, rfl, h8⟩
theorem NodeC.one {w : World} {d : NodeD} {c : Array Value} (h : NodeC w d c) : c.all (·.oneCell') = true := by
 obtain ⟨a1, c1, a2, c2, a3, c3, a4, c4, a5, c5, b1, e1, b2, e2, b3, e3, rfl, h1, h2, h3, h4, h5, h6, h7, h8⟩ := h; rw [← Array.all_toList]; rfl
def TreeOk (t : List NodeD) : Prop := ∀ d ∈ t, NodeOk d
theorem TreeOk.nd {t : List NodeD} (h : TreeOk t) (i : Nat) : NodeOk (nd t i) := by
 unfold Go.Proofs.YtngealmhgkoaiaaGreat.nd; rw [aH]
 by_cases hi : i < t.length
 ·rw [aI hi]; exact h _ (aJ hi)
 ·rw [aK (by omega)]; exact Gv
def Az (t : List NodeD) : Bool := decide (t.length ≤ 40) && t.all Bd
theorem Bh {t : List NodeD} (h : Az t = true) : t.length ≤ 40 := by
 rw [Az, cE] at h; exact of_decide_eq_true h.1
theorem Gw : Bd Be = true := by decide
theorem Bm {t : List NodeD} (h : Az t = true) (i : Nat) : Bd (nd t i) = true := by
 rw [Az, cE] at h; unfold Go.Proofs.YtngealmhgkoaiaaGreat.nd; rw [aH]
 by_cases hi : i < t.length
 ·rw [aI hi]; exact List.all_eq_true.1 h.2 _ (aJ hi)
 ·rw [aK (by omega)]; exact Gw
def Yv (t : List NodeD) : Bool := decide (t.length ≤ 63) && t.all Bd
theorem Kp {t : List NodeD} (h : Yv t = true) : t.length ≤ 63 := by
 rw [Yv, cE] at h; exact of_decide_eq_true h.1
theorem Jj {t : List NodeD} (h : Az t = true) : Yv t = true := by
 rw [Az, cE] at h; rw [Yv, cE]; exact ⟨decide_eq_true (by have := of_decide_eq_true h.1; omega), h.2⟩
theorem Oh {t : List NodeD} (h : Yv t = true) (i : Nat) : Bd (nd t i) = true := by
 rw [Yv, cE] at h; unfold Go.Proofs.YtngealmhgkoaiaaGreat.nd; rw [aH]
 by_cases hi : i < t.length
 ·rw [aI hi]; exact List.all_eq_true.1 h.2 _ (aJ hi)
 ·rw [aK (by omega)]; exact Gw
theorem Yw {t : List NodeD} (hl : t.length ≤ 40) (h : ∀ i, i < t.length → Bd (nd t i) = true) : Az t = true := by
 rw [Az, cE]; refine ⟨decide_eq_true hl, List.all_eq_true.2 fun d hd => ?_⟩; obtain ⟨i, hi, rfl⟩ := dE hd; have := h i hi; rw [nd, aH, aI hi] at this; exact this
theorem Yx {t : List NodeD} {i : Nat} (hi : i < t.length) (h : Bd (nd t i) = false) : Az t = false := by
 cases hs : Az t with
 | false => rfl
 | true => rw [Bm hs] at h; cases h
theorem Af : (Tryz.prog.info? 54).map (·.size) = some 10 := by kernel_rfl
theorem So (d : NodeD) (c : Array Value) (w : World) (h : NodeC w d c) :
  Calls Tryz.prog 68 #[.agg c] w fun e w' => e = .returned (.bool (Bd d)) ∧ Below w.heap.size w w' := by
 obtain ⟨a1, c1, a2, c2, a3, c3, a4, c4, a5, c5, b1, e1, b2, e2, b3, e3, rfl, h1, h2, h3, h4, h5, h6, h7, h8⟩ := h; exact Yp a1 a2 a3 a4 a5 b1 b2 b3 d.kind d.leaf.source _ _ _ _ _ _ _ _ c1 c2 c3 c4 c5 e1 e2 e3 w
theorem Wj (v : Value) (t : List NodeD) (w : World) (h : TreeR w v t) :
  Calls Tryz.prog 16 #[v] w fun e w' => e = .returned (.bool (Az t)) ∧ Below w.heap.size w w' := by
 obtain ⟨a, c, rfl, hc, hc2⟩ := h.sl; have SM := fun (i : Nat) (cs : Array Value) (W : World) (hw : NodeC W (nd t i) cs) => So (nd t i) cs W hw; have GN := fun (W : World) (hw : Below w.heap.size w W) (i : Nat) (hi : i < t.length) => (h.below hw lR).node hi; have S1 := fun (hl : t.length ≤ 40) (h : ∀ i, i < t.length → Bd (nd t i) = true) => Yw hl h; have S2 := fun (i : Nat) (hi : i < t.length) (h : Bd (nd t i) = false) => Yx hi h; have S3 := fun (hl : ¬ t.length ≤ 40) => (show Az t = false by rw [Az, decide_eq_false hl, Bool.false_and]); obtain ⟨n, hn⟩ := eX t.length; rw [← hn] at GN S1 S2 S3 hc ⊢; have HSM := Hd SM; have HGN := Hd GN; have HS1 := Hd S1; have HS2 := Hd S2; have HS3 := Hd S3; obtain ⟨R, hR⟩ := eX (Az t); rw [← hR] at HS1 HS2 HS3 ⊢; clear SM GN S1 S2 S3 h hn hR
 by_cases h40 : n ≤ 40
 ·go_enter Tryz.func16, Tryz.ntmps16; go_wp2_with fail
  go_loopg [3] n (fun q iv wr => ∃ r : Nat, r + q = n ∧ iv = .int .i64 (r : Nat) ∧ (∀ i, i < r → Bd (nd t i) = true) ∧ Below w.heap.size w wr)
  case atStart => exact ⟨0, by omega, rfl, fun i hi => by omega, bR⟩
  case round =>
   obtain ⟨r, hr, rfl, hsm, hb⟩ := hrel; have HR := Hd hr; have HM := Hd hsm; have HB := Hd hb; clear hr hsm hb
   by_cases hlt : r < n
   ·have hlt' : decide (r < n) = true := decide_eq_true hlt; have hltI : decide ((r : Int) < (n : Int)) = true := (by rw [decide_eq_true_iff]; omega); obtain ⟨b, off, cs, rfl, hbl, hnc, hra⟩ := HGN.out wr HB.out r hlt; have HRA := Hd hra; have HNC := Hd hnc; have HSZ := Hd hnc.size; cases hsb : Bd (nd t r) with
    | true =>
     have HSB := Hd hsb; clear hsb hra hnc; go_wp2_with (refine wpList_load_mid rfl 54 (.tmp 15) rfl b (off + r * 10) rfl cs.toList _ HRA.out Tryz.underlying54 rfl (by rw [dF, HSZ.out]; exact Af) ?_); refine (HSM.out r cs wr HNC.out).mono ?_; rintro e w2 ⟨rfl, hb2⟩; have HB2 := Hd (HB.out.trans (hb2.mono HB.out.size)); clear hb2; rw [HSB.out]; go_wp2_with fail; go_roundg (gk - 1); case measure => have := HR.out; omega
     case rel =>
      refine ⟨r + 1, by have := HR.out; omega, by go_num, fun i hi => ?_, HB2.out⟩
      by_cases e : i = r
      ·rw [e]; exact HSB.out
      ·exact HM.out i (by omega)
    | false =>
     have HSB := Hd hsb; clear hsb hra hnc; go_wp2_with (refine wpList_load_mid rfl 54 (.tmp 15) rfl b (off + r * 10) rfl cs.toList _ HRA.out Tryz.underlying54 rfl (by rw [dF, HSZ.out]; exact Af) ?_); refine (HSM.out r cs wr HNC.out).mono ?_; rintro e w2 ⟨rfl, hb2⟩; have HB2 := Hd (HB.out.trans (hb2.mono HB.out.size)); clear hb2; rw [HSB.out]; go_wp2_with fail; go_ret; exact ⟨Da (HS2.out r hlt HSB.out), HB2.out⟩
   ·obtain rfl : r = n := (by have := HR.out; omega); have hlt' : decide (r < r) = false := decide_eq_false hlt; go_wp2_with fail; go_ret; exact ⟨Da (HS1.out h40 HM.out), HB.out⟩
 ·have h41 : 40 < n := (by omega); clear h40; go_enter Tryz.func16, Tryz.ntmps16; go_wp2_with fail; go_ret; exact ⟨Da (HS3.out (by omega)), bR⟩
end Go.Proofs.YtngealmhgkoaiaaGreat
namespace Go.Proofs.YtngealmhgkoaiaaGreat
open Go.RowKit WalkM
theorem Cn {w : World} {B : Nat} {e : TypeId} {v : Value} {xs : List Value} (h : Own w B e v xs) : ∃ a n c, v = .slice a n c := by
 obtain ⟨a, c, e, _⟩ := h.rd; exact ⟨a, _, c, e⟩
theorem Rd.at3 {w : World} {a : Option Addr} {n cap r : Nat} {xs : List Value} {u : Value} (h : Rd w (.slice a n cap) xs) (hu : xs[r]? = some u) : ∃ b off, a = some ⟨b, off, none⟩ ∧ b < w.heap.size ∧ w.cell? ⟨b, off + r, none⟩ = some u := by
 rcases h.lt with h0 | ⟨b, off, cap', e1, e2⟩
 ·subst h0; simp at hu
 ·obtain ⟨a', c', e, _, _, h3⟩ := h; rcases h3 with ⟨h0, _⟩ | ⟨b', off', he, hc⟩
  ·subst h0; simp at hu
  ·simp only [Value.slice.injEq] at e e1; obtain ⟨rfl, _, _⟩ := e; obtain ⟨rfl, _, _⟩ := e1; simp only [Option.some.injEq, Addr.mk.injEq, and_true] at he; obtain ⟨rfl, rfl⟩ := he; exact ⟨b, off, rfl, e2, hc r u hu⟩
def Al (n : Nat) : Nat := if n % 2 = 1 ∧ fits ((n + 1) / 2) = true then (n + 1) / 2 else 0
theorem Cu {n : Nat} (h : Al n ≠ 0) : ∃ d, d ≤ 16 ∧ Al n = 2 ^ d ∧ n + 1 = 2 * 2 ^ d := by
 unfold Al at h ⊢
 by_cases hc : n % 2 = 1 ∧ fits ((n + 1) / 2) = true
 ·rw [if_pos hc] at h ⊢; obtain ⟨d, hd, e⟩ := (fits_iff _).1 hc.2; exact ⟨d, hd, e, by rw [← e]; omega⟩
 ·rw [if_neg hc] at h; exact absurd rfl h
theorem Hy {n d : Nat} (hd : d ≤ 16) (h : n + 1 = 2 * 2 ^ d) : Al n = 2 ^ d := by
 have e : (n + 1) / 2 = 2 ^ d := (by omega); unfold Al; rw [if_pos ⟨by omega, by rw [e]; exact (fits_iff _).2 ⟨d, hd, rfl⟩⟩, e]
theorem Hz (a : Option Addr) (n c : Nat) (w : World) (hn : n ≤ 1000000) :
  Calls Tryz.prog 121 #[.slice a n c] w fun e w' => e = .returned (.int .i64 (Al n : Nat)) ∧ w' = w := by
 obtain ⟨m, hm⟩ := eX ((n + 1) / 2); have F := Kh (m : Int) w (by omega) (by omega); rw [Int.toNat_natCast] at F; have e1 : ((n : Int) + 1) / 2 = (m : Int) := (by omega); have e2 : Int.tdiv ((n : Int) + 1) 2 = (m : Int) := (by rw [Int.tdiv_eq_ediv_of_nonneg (by omega)]; omega); obtain ⟨r, hr⟩ := eX (n % 2); have e3 : (n : Int) % 2 = (r : Int) := (by omega); have e4 : dG (n : Int) 2 = (r : Int) := (by rw [dH (by omega)]; omega); have hr2 : r = 0 ∨ r = 1 := (by omega); obtain ⟨L, hL⟩ := eX (Al n); have hLe : L = if r = 1 ∧ fits m = true then m else 0 := (by rw [hL, Al, ← hm, ← hr]); rw [← hL]; have HF := Hd F; have HL := Hd hLe; clear F hL hLe hm hr; rcases hr2 with rfl | rfl
 ·go_enter Tryz.func121, Tryz.ntmps121; go_wp2_with fail; go_ret; exact ⟨Zgh (by rw [HL.out, if_neg (by omega)]; rfl), rfl⟩
 ·cases hf : fits m with
  | true =>
   have HFT := Hd hf; have HF2 := HF.out; rw [hf] at HF2; have HF3 := Hd HF2; clear hf HF HF2; go_enter Tryz.func121, Tryz.ntmps121; go_wp2_with fail; refine (HF3.out).mono ?_; rintro e w' ⟨rfl, rfl⟩; go_wp2_with fail; go_ret; exact ⟨Zgh (by rw [HL.out, if_pos ⟨by trivial, HFT.out⟩]), rfl⟩
  | false =>
   have HFT := Hd hf; have HF2 := HF.out; rw [hf] at HF2; have HF3 := Hd HF2; clear hf HF HF2; go_enter Tryz.func121, Tryz.ntmps121; go_wp2_with fail; refine (HF3.out).mono ?_; rintro e w' ⟨rfl, rfl⟩; go_wp2_with fail; go_ret; exact ⟨Zgh (by rw [HL.out, if_neg (by rw [HFT.out]; simp)]; rfl), rfl⟩
theorem Sp {n : Nat} (h : ∀ d, d ≤ 16 → n + 1 ≠ 2 * 2 ^ d) : Al n = 0 := by
 by_cases h0 : Al n = 0
 ·exact h0
 ·obtain ⟨d, hd, _, e⟩ := Cu h0; exact absurd e (h d hd)
theorem Sq (a : Option Addr) (n c : Nat) (w : World) (hn : n ≤ 1000000) :
  Calls Tryz.prog 71 #[.slice a n c] w fun e w' => e = .returned (.int .i64 (Al n : Nat)) ∧ w' = w := by
 have L1 := fun (d : Nat) (hd : d ≤ 16) (h : n + 1 = 2 * 2 ^ d) => Hy hd h; have L2 := fun (h : ∀ d, d < 17 → n + 1 ≠ 2 * 2 ^ d) => Sp (n := n) fun d hd => h d (by omega); obtain ⟨L, hL⟩ := eX (Al n); rw [← hL] at L1 L2 ⊢; have H1 := Hd L1; have H2 := Hd L2; clear L1 L2 hL; go_enter Tryz.func71, Tryz.ntmps71; go_wp2_with fail
 go_loopg [3] 17 (fun q iv wr => ∃ d m : Nat, d + q = 17 ∧ m = 2 ^ d ∧ iv = .int .i64 (m : Nat) ∧ (∀ k, k < d → n + 1 ≠ 2 * 2 ^ k) ∧ wr = w)
 case atStart => exact ⟨0, 1, rfl, rfl, rfl, fun k hk => by omega, rfl⟩
 case round =>
  obtain ⟨d, m, hd, hm, rfl, hno, rfl⟩ := hrel; have HD := Hd hd; have HM := Hd hm; have HNO := Hd hno; have hmp : 0 < m := by rw [hm]; exact pow_pos' d
  by_cases hlt : d < 17
  ·have hm2 : m ≤ 65536 := (by rw [hm]; exact Nat.le_trans (Nat.pow_le_pow_right (by omega) (show d ≤ 16 by omega)) (by decide)); have hle : decide ((m : Int) ≤ 65536) = true := (by rw [decide_eq_true_iff]; omega); clear hd hm hno
   by_cases he : n + 1 = 2 * m
   ·have hq : (2 * (m : Int) - 1 == (n : Int)) = true := (by rw [beq_iff_eq]; omega); have hq2 : 2 * (m : Int) - 1 = (n : Int) := (by omega); have HE := Hd he; clear he; go_wp2_with fail; go_ret; exact ⟨Zgh (by rw [H1.out d (by omega) (by rw [HE.out, HM.out]), HM.out]), rfl⟩
   ·have hq : (2 * (m : Int) - 1 == (n : Int)) = false := (by rw [beq_eq_false_iff_ne]; omega); have HE := Hd he; clear he; go_wp2_with fail; go_roundg (gk - 1); case measure => have := HD.out; omega
    case rel =>
     refine ⟨d + 1, 2 * m, by have := HD.out; omega, by rw [HM.out, Nat.pow_succ]; omega, by go_num, fun k hk => ?_, rfl⟩
     by_cases e : k = d
     ·rw [e, ← HM.out]; exact HE.out
     ·exact HNO.out k (by omega)
  ·obtain rfl : d = 17 := (by omega); have hm2 : m = 131072 := (by rw [hm]); have hle : decide ((m : Int) ≤ 65536) = false := (by rw [decide_eq_false_iff_not]; omega); clear hd hm hno; go_wp2_with fail; go_ret; exact ⟨Zgh (by rw [H2.out HNO.out]; rfl), rfl⟩
theorem Up (v : Value) (L : List Int) (x : Int) (w : World) (h : Rd w v (ivs .i64 L)) :
  Calls Tryz.prog 74 #[v, .int .i64 x] w fun e w' => e = .returned (.bool (decide (x ∈ L))) ∧ w' = w := by
 have hv : ∃ a c, v = .slice a L.length c ∧ c ≤ maxLen ∧ L.length ≤ c := (by obtain ⟨a, c, e, h1, h2, _⟩ := h; exact ⟨a, c, by rw [e]; simp [ivs], h2, by simpa [ivs] using h1⟩); obtain ⟨a, c, rfl, hcm, hlc⟩ := hv; have G := fun (i : Nat) (hi : i < L.length) => h.at3 (u := .int .i64 (L.getD i 0)) (r := i) (by simp [ivs, aH, hi]); have M1 := fun (i : Nat) (hi : i < L.length) (e : L.getD i 0 = x) => (show decide (x ∈ L) = true from decide_eq_true (by
  rw [aH, aI hi] at e; have : L[i] = x := e; rw [← this]; exact aJ hi))
 have M2 := fun (hno : ∀ i, i < L.length → L.getD i 0 ≠ x) => (show decide (x ∈ L) = false from decide_eq_false (fun hm => by
  obtain ⟨i, hi, e⟩ := dE hm; exact hno i hi (by rw [aH, aI hi]; exact e)))
 obtain ⟨n, hn⟩ := eX L.length; obtain ⟨R, hR⟩ := eX (decide (x ∈ L)); rw [← hn] at G M1 M2 hlc ⊢; rw [← hR] at M1 M2 ⊢; have hnm : n ≤ 9223372036854775807 := (by unfold maxLen at hcm; omega); have HG := Hd G; have HM1 := Hd M1; have HM2 := Hd M2; clear G M1 M2 h hn hR hcm; go_enter Tryz.func74, Tryz.ntmps74; go_wp2_with fail
 go_loopg [5] n (fun q iv wr => ∃ r : Nat, r + q = n ∧ iv = .int .i64 (r : Nat) ∧ (∀ i, i < r → L.getD i 0 ≠ x) ∧ wr = w)
 case atStart => exact ⟨0, by omega, rfl, fun k hk => by omega, rfl⟩
 case round =>
  obtain ⟨r, hr, rfl, hno, rfl⟩ := hrel; have HR := Hd hr; have HNO := Hd hno; clear hr hno
  by_cases hlt : r < n
  ·have hlt' : decide (r < n) = true := decide_eq_true hlt; obtain ⟨b, off, rfl, hbl, hcell⟩ := HG.out r hlt; obtain ⟨y, hy⟩ := eX (L.getD r 0); rw [← hy] at hcell; have HY := Hd hy; clear hy
   by_cases he : y = x
   ·have hq : (y == x) = true := (by rw [beq_iff_eq]; exact he); have HE := Hd he; clear he; go_wp2_with fail; go_ret; exact ⟨Da (HM1.out r hlt (by rw [← HY.out]; exact HE.out)), rfl⟩
   ·have hq : (y == x) = false := (by rw [beq_eq_false_iff_ne]; exact he); have HE := Hd he; clear he; go_wp2_with fail; go_roundg (gk - 1); case measure => have := HR.out; omega
    case rel =>
     refine ⟨r + 1, by have := HR.out; omega, by go_num, fun i hi => ?_, rfl⟩
     by_cases e : i = r
     ·rw [e, ← HY.out]; exact HE.out
     ·exact HNO.out i (by omega)
  ·obtain rfl : r = n := (by have := HR.out; omega); have hlt' : decide (r < r) = false := decide_eq_false hlt; go_wp2_with fail; go_ret; exact ⟨Da (HM2.out HNO.out), rfl⟩
theorem Zhb {v : Value} {a b : Bool} (h : a = b) : Ending.returned (.tuple #[v, .bool b]) = .returned (.tuple #[v, .bool a]) := by rw [h]
theorem Zcp (x : Int) (w : World) : Calls Tryz.prog 236 #[.int .i64 x] w fun e w' => e = .returned (.bool false) ∧ w' = w := by
 have h : (x != x) = false := (by rw [bne_eq_false_iff_eq]); go_enter Tryz.func236, Tryz.ntmps236; go_wp2_with fail; go_ret; exact ⟨rfl, rfl⟩
theorem Zcq (x : Int) (w : World) : Calls Tryz.prog 192 #[.int .i64 x] w fun e w' => e = .returned (.bool false) ∧ w' = w := by
 have h : (x != x) = false := (by rw [bne_eq_false_iff_eq]); go_enter Tryz.func192, Tryz.ntmps192; go_wp2_with fail; go_ret; exact ⟨rfl, rfl⟩
theorem Yy (x y : Int) (w : World) : Calls Tryz.prog 191 #[.int .i64 x, .int .i64 y] w fun e w' => e = .returned (.bool (decide (x < y))) ∧ w' = w := by
 obtain ⟨b, hb⟩ : ∃ b, decide (x < y) = b := ⟨_, rfl⟩; rw [hb]; go_enter Tryz.func191, Tryz.ntmps191; go_wp2_with fail; refine (Zcp x w).mono ?_; rintro e w' ⟨rfl, rfl⟩; go_wp2_with fail; go_ret; exact ⟨rfl, rfl⟩
def Zgi (L : List Int) : Prop := ∀ i j, i < j → j < L.length → L.getD i 0 < L.getD j 0
theorem Sr (v : Value) (L : List Int) (x : Int) (w : World) (h : Rd w v (ivs .i64 L)) (hs : Zgi L) (hl : L.length ≤ 1000000) :
  Calls Tryz.prog 125 #[v, .int .i64 x] w fun e w' => ∃ p : Nat, e = .returned (.tuple #[.int .i64 (p : Nat), .bool (decide (x ∈ L))]) ∧ p ≤ L.length ∧ (∀ k, k < p → L.getD k 0 < x) ∧ (∀ k, p ≤ k → k < L.length → x ≤ L.getD k 0) ∧ w' = w := by
 have hv : ∃ a c, v = .slice a L.length c := (by obtain ⟨a, c, e, h1, h2, _⟩ := h; exact ⟨a, c, by rw [e]; simp [ivs]⟩); obtain ⟨a, c, rfl⟩ := hv; have G := fun (i : Nat) (hi : i < L.length) => h.at3 (u := .int .i64 (L.getD i 0)) (r := i) (by simp [ivs, aH, hi]); have hs2 : ∀ i j, i ≤ j → j < L.length → L.getD i 0 ≤ L.getD j 0 := by
  intro i j hij hj
  by_cases e : i = j
  ·rw [e]; exact Int.le_refl _
  ·exact Int.le_of_lt (hs i j (by omega) hj)
 have M1 := fun (i : Nat) (hi : i < L.length) (e : L.getD i 0 = x) => (show decide (x ∈ L) = true from decide_eq_true (by
  rw [aH, aI hi] at e; have : L[i] = x := e; rw [← this]; exact aJ hi))
 have M2 := fun (hno : ∀ i, i < L.length → L.getD i 0 ≠ x) => (show decide (x ∈ L) = false from decide_eq_false (fun hm => by
  obtain ⟨i, hi, e⟩ := dE hm; exact hno i hi (by rw [aH, aI hi]; exact e)))
 obtain ⟨n, hn⟩ := eX L.length; obtain ⟨R, hR⟩ := eX (decide (x ∈ L)); rw [← hn] at G M1 M2 hs2 hl; simp only [← hn]; rw [← hR] at M1 M2 ⊢; have HG := Hd G; have HM1 := Hd M1; have HM2 := Hd M2; have HS2 := Hd hs2; clear G M1 M2 h hn hR hs hs2; go_enter Tryz.func125, Tryz.ntmps125; go_wp2_with fail
 go_loopg [7, 8] n (fun q iv jv wr => ∃ i j : Nat, i + q = j ∧ j ≤ n ∧ iv = .int .i64 (i : Nat) ∧ jv = .int .i64 (j : Nat) ∧ (∀ k, k < i → L.getD k 0 < x) ∧ (∀ k, j ≤ k → k < n → x ≤ L.getD k 0) ∧ wr = w)
 case atStart => exact ⟨0, n, by omega, lR, rfl, rfl, fun k hk => by omega, fun k h1 h2 => by omega, rfl⟩
 case round =>
  obtain ⟨i, j, hij, hjn, rfl, rfl, hlo, hhi, rfl⟩ := hrel; have HIJ := Hd hij; have HLO := Hd hlo; have HHI := Hd hhi; clear hij hlo hhi
  by_cases hlt : i < j
  ·have hlt' : decide (i < j) = true := decide_eq_true hlt; obtain ⟨m, hm⟩ := eX ((i + j) / 2); obtain ⟨s, hs⟩ := eX (i + j); have e1 : (i : Int) + (j : Int) = (s : Int) := (by omega); have e2 : IntKind.u64.wrap (s : Int) = (s : Int) := (by rw [IntKind.wrap_u64]; omega); have e3 : (s : Int) / 2 = (m : Int) := (by omega); have e4 : IntKind.i64.wrap (m : Int) = (m : Int) := (by rw [IntKind.wrap_i64]; omega); have hmn : m < n := (by omega); obtain ⟨b, off, rfl, hbl, hcell⟩ := HG.out m hmn; obtain ⟨y, hy⟩ := eX (L.getD m 0); rw [← hy] at hcell; have HY := Hd hy; have HMM := Hd hm; have HSS := Hd hs; have CL := Yy y x wr
   by_cases hyx : y < x
   ·rw [decide_eq_true hyx] at CL; have HCL := Hd CL; have HYX := Hd hyx; clear hy hm hs CL hyx; go_wp2_with fail; refine (HCL.out).mono ?_; rintro e w' ⟨rfl, rfl⟩; go_wp2_with fail; go_roundg (j - (m + 1)); case measure => have := HIJ.out; have := HMM.out; omega
    case rel =>
     refine ⟨m + 1, j, by have := HMM.out; omega, hjn, by go_num, rfl, fun k hk => ?_, HHI.out, rfl⟩; have := HS2.out k m (by omega) hmn; have := HYX.out; rw [HY.out] at this; omega
   ·rw [decide_eq_false hyx] at CL; have HCL := Hd CL; have HYX := Hd hyx; clear hy hm hs CL hyx; go_wp2_with fail; refine (HCL.out).mono ?_; rintro e w' ⟨rfl, rfl⟩; go_wp2_with fail; go_roundg (m - i); case measure => have := HIJ.out; have := HMM.out; omega
    case rel =>
     refine ⟨i, m, by have := HMM.out; omega, by omega, rfl, rfl, HLO.out, fun k h1 h2 => ?_, rfl⟩; have := HS2.out m k h1 h2; have := HYX.out; rw [HY.out] at this; omega
  ·have hlt' : decide (i < j) = false := decide_eq_false hlt
   by_cases hin : i < n
   ·have hin' : decide (i < n) = true := decide_eq_true hin; obtain ⟨b, off, rfl, hbl, hcell⟩ := HG.out i hin; obtain ⟨y, hy⟩ := eX (L.getD i 0); rw [← hy] at hcell; have HY := Hd hy; clear hy
    by_cases he : y = x
    ·have hq : (y == x) = true := (by rw [beq_iff_eq]; exact he); have HF := Hd (HM1.out i hin (by rw [← HY.out]; exact he)); clear he; go_wp2_with fail; go_ret2; exact ⟨i, Zhb HF.out, by have := HIJ.out; omega, HLO.out, fun k h1 h2 => HHI.out k (by omega) h2, rfl⟩
    ·have hq : (y == x) = false := (by rw [beq_eq_false_iff_ne]; exact he); have HF := Hd (HM2.out (fun k hk e => by
      by_cases h1 : k < i
      ·have := HLO.out k h1; omega
      ·by_cases h2 : k = i
       ·rw [h2] at e; exact he (HY.out.trans e)
       ·have h3 := HS2.out i k (by omega) hk; have h4 := HHI.out i (by omega) hin; have := HY.out
        omega))
     clear he; have N1 := Hd (Zcq y wr); go_wp2_with fail; refine (N1.out).mono ?_; rintro e w' ⟨rfl, rfl⟩; go_wp2_with fail; go_ret2; exact ⟨i, Zhb HF.out, by have := HIJ.out; omega, HLO.out, fun k h1 h2 => HHI.out k (by omega) h2, rfl⟩
   ·have hin' : decide (i < n) = false := decide_eq_false hin; have HF := Hd (HM2.out (fun k hk e => by have := HLO.out k (by omega); omega)); go_wp2_with fail; go_ret2; exact ⟨i, Zhb HF.out, by have := HIJ.out; omega, HLO.out, fun k h1 h2 => HHI.out k (by omega) h2, rfl⟩
def Ik (L : List Int) (x : Int) : Bool := L.any fun u => Bl (2 * u) x
theorem Uq {L : List Int} {p : Int → Bool} {i : Nat} (hi : i < L.length) (h : p (L.getD i 0) = true) : L.any p = true := by
 rw [bZ]; refine ⟨L.getD i 0, ?_, h⟩; rw [aH, aI hi]; exact aJ hi
theorem Yz {L : List Int} {p : Int → Bool} (h : ∀ i, i < L.length → p (L.getD i 0) = false) : L.any p = false := by
 rw [List.any_eq_false]; intro u hu; obtain ⟨i, hi, rfl⟩ := dE hu; have := h i hi; rw [aH, aI hi] at this; show ¬ p L[i] = true; have e : p L[i] = false := this; rw [e]; simp
theorem Zcr (u x : Int) (g : Nat) (w : World) (hx : w.cell? ⟨g, 0, none⟩ = some (.int .i64 x)) (hu : 0 ≤ u ∧ u < 1000000) :
  Calls Tryz.prog 251 #[.int .i64 u, .pointer (some ⟨g, 0, none⟩)] w fun e w' => e = .returned (.bool (Bl (2 * u) x)) ∧ w' = w := by
 have HU := Hd (Ch (2 * u) x w); obtain ⟨b, hb⟩ := eX (Bl (2 * u) x); rw [← hb] at HU ⊢; clear hb; have hw : wrap64 (2 * u) = 2 * u := (by unfold wrap64; omega); go_enter Tryz.func251, Tryz.ntmps251; go_wp2_with fail; refine HU.out.mono ?_; rintro e w' ⟨rfl, rfl⟩; go_wp2_with fail; go_ret; exact ⟨rfl, rfl⟩
theorem Zcs (v : Value) (L : List Int) (x : Int) (g : Nat) (w : World) (h : Rd w v (ivs .i64 L)) (hx : w.cell? ⟨g, 0, none⟩ = some (.int .i64 x)) (hL : ∀ u ∈ L, 0 ≤ u ∧ u < 1000000) (hl : L.length ≤ 1000000) :
  Calls Tryz.prog 269 #[v, .func (.func 251) #[] #[.pointer (some ⟨g, 0, none⟩)]] w fun e w' => w' = w ∧ ∃ r : Int, e = .returned (.int .i64 r) ∧ decide (r ≥ 0) = L.any (fun u => (Bl (2 * u) x)) := by
 obtain ⟨a, cp, rfl⟩ : ∃ a cp, v = .slice a L.length cp := (by obtain ⟨a, cp, e, _⟩ := h; rw [show (ivs .i64 L).length = L.length by simp [ivs]] at e; exact ⟨a, cp, e⟩); have AT := fun (r : Nat) (hr : r < L.length) => h.at3 (u := .int .i64 (L.getD r 0)) (r := r) (by simp [ivs, aH, hr]); have CC := fun (r : Nat) (hr : r < L.length) => Zcr (L.getD r 0) x g w hx (hL _ (by rw [aH, aI hr]; exact aJ hr)); have YES := fun (i : Nat) (hi : i < L.length) (h : (fun u => (Bl (2 * u) x)) (L.getD i 0) = true) => Uq (p := fun u => (Bl (2 * u) x)) hi h; have NO := fun (h : ∀ i, i < L.length → (fun u => (Bl (2 * u) x)) (L.getD i 0) = false) => Yz (p := fun u => (Bl (2 * u) x)) h; obtain ⟨U, hU⟩ : ∃ U : Nat → Int, U = fun r => L.getD r 0 := ⟨_, rfl⟩; have hU2 : ∀ r, L.getD r 0 = U r := fun r => (by rw [hU]); simp only [hU2] at AT CC YES NO; obtain ⟨PF, hPF⟩ : ∃ f : Int → Bool, f = fun u => (Bl (2 * u) x) := ⟨_, rfl⟩; have hPF2 : ∀ u : Int, (Bl (2 * u) x) = PF u := fun u => (by rw [hPF]); obtain ⟨R, hR⟩ := eX (L.any (fun u => (Bl (2 * u) x))); rw [← hR] at YES NO ⊢; simp only [hPF2] at CC YES NO; obtain ⟨k, hkk⟩ := eX L.length; rw [← hkk] at AT CC hl YES NO ⊢; have HAT := Hd AT; have HCC := Hd CC; have HYES := Hd YES; have HNO := Hd NO; clear AT CC YES NO hkk h hx hU hU2 hL hPF hPF2 hR; go_enter Tryz.func269, Tryz.ntmps269; go_wp2_with fail
 go_loopg [8] k (fun q iv wr => ∃ r : Nat, r + q = k ∧ iv = .int .i64 (r : Nat) ∧ (∀ i, i < r → PF (U i) = false) ∧ wr = w)
 case atStart => exact ⟨0, by omega, rfl, fun i hi => by omega, rfl⟩
 case round =>
  obtain ⟨r, hr, rfl, hsm, rfl⟩ := hrel; have HR := Hd hr; have HM := Hd hsm; clear hr hsm
  by_cases hlt : r < k
  ·have hlt' : decide (r < k) = true := decide_eq_true hlt; obtain ⟨b, off, rfl, hbl, cu⟩ := HAT.out r hlt; have C1 := HCC.out r hlt; obtain ⟨u, hu⟩ := eX (U r); rw [← hu] at cu C1; obtain ⟨bb, hbb⟩ := eX (PF u); rw [← hbb] at C1; have HC1 := Hd C1; have HUB := Hd (show PF (U r) = bb by rw [hbb, hu]); clear C1 hbb hu; cases bb with
   | true =>
    have HY := Hd (HYES.out r hlt HUB.out); go_wp2_with fail; refine (HC1.out).mono ?_; rintro e w2 ⟨rfl, rfl⟩; go_wp2_with fail; go_ret; exact ⟨rfl, _, rfl, by rw [HY.out]; simp⟩
   | false =>
    go_wp2_with fail; refine (HC1.out).mono ?_; rintro e w2 ⟨rfl, rfl⟩; go_wp2_with fail; go_roundg (gk - 1); case measure => have := HR.out; omega
    case rel =>
     refine ⟨r + 1, by have := HR.out; omega, by go_num, fun i hi => ?_, rfl⟩
     by_cases e : i = r
     ·rw [e]; exact HUB.out
     ·exact HM.out i (by omega)
  ·obtain rfl : r = k := (by have := HR.out; omega); have hlt' : decide (r < r) = false := decide_eq_false hlt; have HF := Hd (HNO.out HM.out); go_wp2_with fail; go_ret; exact ⟨rfl, _, rfl, by rw [HF.out]; simp⟩
theorem Zct (v : Value) (L : List Int) (x : Int) (g : Nat) (w : World) (h : Rd w v (ivs .i64 L)) (hx : w.cell? ⟨g, 0, none⟩ = some (.int .i64 x)) (hL : ∀ u ∈ L, 0 ≤ u ∧ u < 1000000) (hl : L.length ≤ 1000000) :
  Calls Tryz.prog 250 #[v, .func (.func 251) #[] #[.pointer (some ⟨g, 0, none⟩)]] w fun e w' => e = .returned (.bool (L.any fun u => (Bl (2 * u) x))) ∧ w' = w := by
 have HI := Hd (Zcs v L x g w h hx hL hl); obtain ⟨R, hR⟩ := eX (L.any (fun u => (Bl (2 * u) x))); rw [← hR] at HI ⊢; obtain ⟨a, n, cp, rfl⟩ : ∃ a n cp, v = .slice a n cp := (by obtain ⟨a, cp, e, _⟩ := h; exact ⟨_, _, _, e⟩); clear h hx hL hR; go_enter Tryz.func250, Tryz.ntmps250; go_wp2_with fail; refine HI.out.mono ?_; rintro e w' ⟨rfl, r, rfl, hr⟩
 by_cases hp : 0 ≤ r
 ·have hd : decide (0 ≤ r) = true := decide_eq_true hp; have HD := Hd hr; clear hr; go_wp2_with fail; go_ret; exact ⟨by rw [← HD.out]; simpa using hp, rfl⟩
 ·have hd : decide (0 ≤ r) = false := decide_eq_false hp; have HD := Hd hr; clear hr; go_wp2_with fail; go_ret; exact ⟨by rw [← HD.out]; simpa using hp, rfl⟩
theorem Za (u x : Int) (g : Nat) (w : World) (hx : w.cell? ⟨g, 0, none⟩ = some (.int .i64 x)) (hu : 0 ≤ u ∧ u < 1000000) :
  Calls Tryz.prog 253 #[.int .i64 u, .pointer (some ⟨g, 0, none⟩)] w fun e w' => e = .returned (.bool (!Bl (2 * u) x)) ∧ w' = w := by
 have HU := Hd (Ch (2 * u) x w); obtain ⟨b, hb⟩ := eX (Bl (2 * u) x); rw [← hb] at HU ⊢; clear hb; have hw : wrap64 (2 * u) = 2 * u := (by unfold wrap64; omega); go_enter Tryz.func253, Tryz.ntmps253; go_wp2_with fail; refine HU.out.mono ?_; rintro e w' ⟨rfl, rfl⟩; go_wp2_with fail; go_ret; exact ⟨rfl, rfl⟩
theorem Zb (v : Value) (L : List Int) (x : Int) (g : Nat) (w : World) (h : Rd w v (ivs .i64 L)) (hx : w.cell? ⟨g, 0, none⟩ = some (.int .i64 x)) (hL : ∀ u ∈ L, 0 ≤ u ∧ u < 1000000) (hl : L.length ≤ 1000000) :
  Calls Tryz.prog 269 #[v, .func (.func 253) #[] #[.pointer (some ⟨g, 0, none⟩)]] w fun e w' => w' = w ∧ ∃ r : Int, e = .returned (.int .i64 r) ∧ decide (r ≥ 0) = L.any (fun u => (!Bl (2 * u) x)) := by
 obtain ⟨a, cp, rfl⟩ : ∃ a cp, v = .slice a L.length cp := (by obtain ⟨a, cp, e, _⟩ := h; rw [show (ivs .i64 L).length = L.length by simp [ivs]] at e; exact ⟨a, cp, e⟩); have AT := fun (r : Nat) (hr : r < L.length) => h.at3 (u := .int .i64 (L.getD r 0)) (r := r) (by simp [ivs, aH, hr]); have CC := fun (r : Nat) (hr : r < L.length) => Za (L.getD r 0) x g w hx (hL _ (by rw [aH, aI hr]; exact aJ hr)); have YES := fun (i : Nat) (hi : i < L.length) (h : (fun u => (!Bl (2 * u) x)) (L.getD i 0) = true) => Uq (p := fun u => (!Bl (2 * u) x)) hi h; have NO := fun (h : ∀ i, i < L.length → (fun u => (!Bl (2 * u) x)) (L.getD i 0) = false) => Yz (p := fun u => (!Bl (2 * u) x)) h; obtain ⟨U, hU⟩ : ∃ U : Nat → Int, U = fun r => L.getD r 0 := ⟨_, rfl⟩; have hU2 : ∀ r, L.getD r 0 = U r := fun r => (by rw [hU]); simp only [hU2] at AT CC YES NO; obtain ⟨PF, hPF⟩ : ∃ f : Int → Bool, f = fun u => (!Bl (2 * u) x) := ⟨_, rfl⟩; have hPF2 : ∀ u : Int, (!Bl (2 * u) x) = PF u := fun u => (by rw [hPF]); obtain ⟨R, hR⟩ := eX (L.any (fun u => (!Bl (2 * u) x))); rw [← hR] at YES NO ⊢; simp only [hPF2] at CC YES NO; obtain ⟨k, hkk⟩ := eX L.length; rw [← hkk] at AT CC hl YES NO ⊢; have HAT := Hd AT; have HCC := Hd CC; have HYES := Hd YES; have HNO := Hd NO; clear AT CC YES NO hkk h hx hU hU2 hL hPF hPF2 hR; go_enter Tryz.func269, Tryz.ntmps269; go_wp2_with fail
 go_loopg [8] k (fun q iv wr => ∃ r : Nat, r + q = k ∧ iv = .int .i64 (r : Nat) ∧ (∀ i, i < r → PF (U i) = false) ∧ wr = w)
 case atStart => exact ⟨0, by omega, rfl, fun i hi => by omega, rfl⟩
 case round =>
  obtain ⟨r, hr, rfl, hsm, rfl⟩ := hrel; have HR := Hd hr; have HM := Hd hsm; clear hr hsm
  by_cases hlt : r < k
  ·have hlt' : decide (r < k) = true := decide_eq_true hlt; obtain ⟨b, off, rfl, hbl, cu⟩ := HAT.out r hlt; have C1 := HCC.out r hlt; obtain ⟨u, hu⟩ := eX (U r); rw [← hu] at cu C1; obtain ⟨bb, hbb⟩ := eX (PF u); rw [← hbb] at C1; have HC1 := Hd C1; have HUB := Hd (show PF (U r) = bb by rw [hbb, hu]); clear C1 hbb hu; cases bb with
   | true =>
    have HY := Hd (HYES.out r hlt HUB.out); go_wp2_with fail; refine (HC1.out).mono ?_; rintro e w2 ⟨rfl, rfl⟩; go_wp2_with fail; go_ret; exact ⟨rfl, _, rfl, by rw [HY.out]; simp⟩
   | false =>
    go_wp2_with fail; refine (HC1.out).mono ?_; rintro e w2 ⟨rfl, rfl⟩; go_wp2_with fail; go_roundg (gk - 1); case measure => have := HR.out; omega
    case rel =>
     refine ⟨r + 1, by have := HR.out; omega, by go_num, fun i hi => ?_, rfl⟩
     by_cases e : i = r
     ·rw [e]; exact HUB.out
     ·exact HM.out i (by omega)
  ·obtain rfl : r = k := (by have := HR.out; omega); have hlt' : decide (r < r) = false := decide_eq_false hlt; have HF := Hd (HNO.out HM.out); go_wp2_with fail; go_ret; exact ⟨rfl, _, rfl, by rw [HF.out]; simp⟩
theorem Zc (v : Value) (L : List Int) (x : Int) (g : Nat) (w : World) (h : Rd w v (ivs .i64 L)) (hx : w.cell? ⟨g, 0, none⟩ = some (.int .i64 x)) (hL : ∀ u ∈ L, 0 ≤ u ∧ u < 1000000) (hl : L.length ≤ 1000000) :
  Calls Tryz.prog 250 #[v, .func (.func 253) #[] #[.pointer (some ⟨g, 0, none⟩)]] w fun e w' => e = .returned (.bool (L.any fun u => (!Bl (2 * u) x))) ∧ w' = w := by
 have HI := Hd (Zb v L x g w h hx hL hl); obtain ⟨R, hR⟩ := eX (L.any (fun u => (!Bl (2 * u) x))); rw [← hR] at HI ⊢; obtain ⟨a, n, cp, rfl⟩ : ∃ a n cp, v = .slice a n cp := (by obtain ⟨a, cp, e, _⟩ := h; exact ⟨_, _, _, e⟩); clear h hx hL hR; go_enter Tryz.func250, Tryz.ntmps250; go_wp2_with fail; refine HI.out.mono ?_; rintro e w' ⟨rfl, r, rfl, hr⟩
 by_cases hp : 0 ≤ r
 ·have hd : decide (0 ≤ r) = true := decide_eq_true hp; have HD := Hd hr; clear hr; go_wp2_with fail; go_ret; exact ⟨by rw [← HD.out]; simpa using hp, rfl⟩
 ·have hd : decide (0 ≤ r) = false := decide_eq_false hp; have HD := Hd hr; clear hr; go_wp2_with fail; go_ret; exact ⟨by rw [← HD.out]; simpa using hp, rfl⟩
theorem Fz (v : Value) (L : List Int) (x : Int) (w : World) (h : Rd w v (ivs .i64 L)) (hL : ∀ u ∈ L, 0 ≤ u ∧ u < 1000000) (hl : L.length ≤ 1000000) :
  Calls Tryz.prog 220 #[v, .int .i64 x] w fun e w' => e = .returned (.bool (Ik L x)) ∧ Below w.heap.size w w' := by
 have hb := (Below.refl w.heap.size w).alloc lR (.cells #[.int .i64 x] 3); have HC := Hd (Zct v L x w.heap.size (w.alloc (.cells #[.int .i64 x] 3)) (h.below hb lR) (Ar rfl) hL hl); have HB := Hd hb; obtain ⟨R, hR⟩ := eX (Ik L x); unfold Ik at hR; rw [← hR] at HC; show Calls Tryz.prog 220 #[v, .int .i64 x] w fun e w' => e = .returned (.bool (Ik L x)) ∧ Below w.heap.size w w'; unfold Ik; rw [← hR]; obtain ⟨a, n, cp, rfl⟩ : ∃ a n cp, v = .slice a n cp := (by obtain ⟨a, cp, e, _⟩ := h; exact ⟨_, _, _, e⟩); clear h hL hR hb; go_enter Tryz.func220, Tryz.ntmps220; go_wp2_with fail; refine HC.out.mono ?_; rintro e w' ⟨rfl, rfl⟩; go_wp2_with fail; go_ret; exact ⟨rfl, HB.out⟩
theorem Lh (d : NodeD) (c : Array Value) (w : World) (h : NodeC w d c) (hk : NodeOk d) (hs : Bd d = true) (r : Bool) (hr : Aq d = r) :
  Calls Tryz.prog 69 #[.agg c] w fun e w' => Below w.heap.size w w' ∧ ∃ v, e = .returned (.tuple #[v, .int .u8 (if r = true then 0 else 3)]) ∧ Own w' w.heap.size 5 v (bvs (if r = true then Bj d else [])) := by
 subst hr; cases hr : Aq d with
 | true =>
  have := Py d c w h hk hs hr; unfold Es at this; rw [hr] at this; exact this
 | false =>
  have := Mw d c w h hs hr; unfold Es at this; rw [hr] at this; exact this
def Dn (x : Nat) : Nat := if x % 2 = 1 then 1 else 2
def Bc (t : List NodeD) : Bool := (List.range t.length).all fun x => decide ((nd t x).kind ≠ Dn x) && Aq (nd t x)
theorem Ga (t : List NodeD) : Bc t = true ↔ ∀ x, x < t.length → (nd t x).kind ≠ Dn x ∧ Aq (nd t x) = true := by
 unfold Bc; rw [List.all_eq_true]; constructor
 ·intro h x hx; have := h x (List.mem_range.2 hx); rw [cE, decide_eq_true_iff] at this; exact this
 ·intro h x hx; rw [cE, decide_eq_true_iff]; exact h x (List.mem_range.1 hx)
theorem Mz {t : List NodeD} {x : Nat} (hx : x < t.length) (h : (nd t x).kind = Dn x ∨ Aq (nd t x) = false) : Bc t = false := by
 cases hp : Bc t with
 | false => rfl
 | true =>
  have := (Ga t).1 hp x hx; rcases h with h | h
  ·exact absurd h this.1
  ·rw [this.2] at h; cases h
theorem Fn {x : Nat} (h : x % 2 = 1) : Dn x = 1 := by unfold Dn; rw [if_pos h]
theorem Dt {x : Nat} (h : x % 2 = 0) : Dn x = 2 := by unfold Dn; rw [if_neg (by omega)]
theorem Wk (v : Value) (t : List NodeD) (w : World) (h : TreeR w v t) (hs : Yv t = true) (hok : TreeOk t) :
  Calls Tryz.prog 130 #[v] w fun e w' => e = .returned (.bool (Bc t)) ∧ Below w.heap.size w w' := by
 obtain ⟨a, c, rfl, hc, hc2⟩ := h.sl; have NB := fun (i : Nat) (cs : Array Value) (W : World) (r : Bool) (hr : Aq (nd t i) = r) (hw : NodeC W (nd t i) cs) => Lh (nd t i) cs W hw (hok.nd i) (Oh hs i) r hr; have GN := fun (W : World) (hw : Below w.heap.size w W) (i : Nat) (hi : i < t.length) => (h.below hw lR).node hi; have S1 := fun (h : ∀ i, i < t.length → (nd t i).kind ≠ Dn i ∧ Aq (nd t i) = true) => (Ga t).2 h; have S2 := fun (i : Nat) (hi : i < t.length) (h : (nd t i).kind = Dn i ∨ Aq (nd t i) = false) => Mz hi h; have K := fun (i : Nat) => (hok.nd i).kind; obtain ⟨n, hn⟩ := eX t.length; rw [← hn] at GN S1 S2 hc ⊢; obtain ⟨R, hR⟩ := eX (Bc t); rw [← hR] at S1 S2 ⊢; have HNB := Hd NB; have HGN := Hd GN; have HS1 := Hd S1; have HS2 := Hd S2; have HK := Hd K; clear NB GN S1 S2 K h hn hR hs hok; go_enter Tryz.func130, Tryz.ntmps130; go_wp2_with fail
 go_loopg [10] n (fun q iv wr => ∃ r : Nat, r + q = n ∧ iv = .int .i64 (r : Nat) ∧ (∀ i, i < r → (nd t i).kind ≠ Dn i ∧ Aq (nd t i) = true) ∧ Below w.heap.size w wr)
 case atStart => exact ⟨0, by omega, rfl, fun i hi => by omega, bR⟩
 case round =>
  obtain ⟨r, hr, rfl, hsm, hb⟩ := hrel; have HR := Hd hr; have HM := Hd hsm; have HB := Hd hb; clear hr hsm hb
  by_cases hlt : r < n
  ·have hlt' : decide (r < n) = true := decide_eq_true hlt; obtain ⟨b, off, cs, rfl, hbl, hnc, hra⟩ := HGN.out wr HB.out r hlt; obtain ⟨D, hD⟩ := eX (nd t r); have hkd := HK.out r; have HND := Hd hnc; rw [← hD] at hnc hkd; obtain ⟨a1, c1, a2, c2, a3, c3, a4, c4, a5, c5, b1, e1, b2, e2, b3, e3, hcs, h1, h2, h3, h4, h5, h6, h7, h8⟩ := hnc; obtain ⟨kd, hkd'⟩ : ∃ k, k = D.kind := ⟨_, rfl⟩; rw [← hkd'] at hcs hkd; have HKD := Hd (show kd = (nd t r).kind by rw [hkd', hD]); have HRA := Hd hra; have HCS := Hd hcs; have hsz := HB.out.size; obtain ⟨l1, hl1⟩ := eX D.leaf.box.length; obtain ⟨l2, hl2⟩ := eX D.leaf.sign.length; obtain ⟨l3, hl3⟩ := eX D.leaf.ident.length; obtain ⟨l4, hl4⟩ := eX D.leaf.par.length; obtain ⟨l5, hl5⟩ := eX D.leaf.sig.length; obtain ⟨l6, hl6⟩ := eX D.par.box.length; obtain ⟨l7, hl7⟩ := eX D.par.hash.length; obtain ⟨l8, hl8⟩ := eX D.par.late.length; obtain ⟨s, hsrc⟩ := eX D.leaf.source; rw [← hl1, ← hl2, ← hl3, ← hl4, ← hl5, ← hl6, ← hl7, ← hl8, ← hsrc] at hcs; subst hcs; clear h1 h2 h3 h4 h5 h6 h7 h8 hra HCS hl1 hl2 hl3 hl4 hl5 hl6 hl7 hl8 hsrc hkd' hD; obtain ⟨m, hm⟩ := eX (r % 2); have e3' : (r : Int) % 2 = (m : Int) := (by omega); have e4' : dG (r : Int) 2 = (m : Int) := (by rw [dH (by omega)]; omega); have hm2 : m = 0 ∨ m = 1 := (by omega); have HMM := Hd hm; clear hm; rcases hm2 with rfl | rfl
   ·have HOK := Hd (Dt HMM.out.symm); have HBA := Hd (HB.out.alloc HB.out.size (.cells #[.int .u8 (kd : Nat), .slice a1 l1 c1, .slice a2 l2 c2, .slice a3 l3 c3, .int .u8 (s : Nat), .slice a4 l4 c4, .slice a5 l5 c5, .slice b1 l6 e1, .slice b2 l7 e2, .slice b3 l8 e3] 54))
    by_cases hk : kd = 2
    ·have hq : ((kd : Int) == 2) = true := (by rw [beq_iff_eq]; omega); have HF := Hd (HS2.out r hlt (.inl (by rw [← HKD.out, HOK.out, hk]))); clear hk; go_wp2_with (refine wpList_load_mid rfl 54 (.tmp 13) rfl b (off + r * 10) rfl [.int .u8 (kd : Nat), .slice a1 l1 c1, .slice a2 l2 c2, .slice a3 l3 c3, .int .u8 (s : Nat), .slice a4 l4 c4, .slice a5 l5 c5, .slice b1 l6 e1, .slice b2 l7 e2, .slice b3 l8 e3] _ HRA.out Tryz.underlying54 rfl Af ?_); go_ret; exact ⟨Da HF.out, HBA.out⟩
    ·have hq : ((kd : Int) == 2) = false := (by rw [beq_eq_false_iff_ne]; omega); have hq2 : (kd : Int) ≠ 2 := (by omega); have HKN := Hd (show (nd t r).kind ≠ Dn r by rw [← HKD.out, HOK.out]; exact hk); have HNDA := Hd (HND.out.below ((Below.refl wr.heap.size wr).alloc lR (.cells #[.int .u8 (kd : Nat), .slice a1 l1 c1, .slice a2 l2 c2, .slice a3 l3 c3, .int .u8 (s : Nat), .slice a4 l4 c4, .slice a5 l5 c5, .slice b1 l6 e1, .slice b2 l7 e2, .slice b3 l8 e3] 54)) lR); cases hrb : Aq (nd t r) with
     | true =>
      have HRB := Hd hrb; have N1 := Hd (HNB.out r _ _ true hrb HNDA.out); clear hrb hk; go_wp2_with (refine wpList_load_mid rfl 54 (.tmp 13) rfl b (off + r * 10) rfl [.int .u8 (kd : Nat), .slice a1 l1 c1, .slice a2 l2 c2, .slice a3 l3 c3, .int .u8 (s : Nat), .slice a4 l4 c4, .slice a5 l5 c5, .slice b1 l6 e1, .slice b2 l7 e2, .slice b3 l8 e3] _ HRA.out Tryz.underlying54 rfl Af ?_); refine (N1.out).mono ?_; rintro e w2 ⟨hb2, v, rfl, hown⟩; have HB2 := Hd (HBA.out.trans (hb2.mono HBA.out.size)); obtain ⟨y1, y2, y3, rfl⟩ := Cn hown; clear hb2 hown; go_wp2_with fail; go_roundg (gk - 1); case measure => have := HR.out; omega
      case rel =>
       refine ⟨r + 1, by have := HR.out; omega, by go_num, fun i hi => ?_, HB2.out⟩
       by_cases e : i = r
       ·rw [e]; exact ⟨HKN.out, HRB.out⟩
       ·exact HM.out i (by omega)
     | false =>
      have HF := Hd (HS2.out r hlt (.inr hrb)); have N1 := Hd (HNB.out r _ _ false hrb HNDA.out); clear hrb hk; go_wp2_with (refine wpList_load_mid rfl 54 (.tmp 13) rfl b (off + r * 10) rfl [.int .u8 (kd : Nat), .slice a1 l1 c1, .slice a2 l2 c2, .slice a3 l3 c3, .int .u8 (s : Nat), .slice a4 l4 c4, .slice a5 l5 c5, .slice b1 l6 e1, .slice b2 l7 e2, .slice b3 l8 e3] _ HRA.out Tryz.underlying54 rfl Af ?_); refine (N1.out).mono ?_; rintro e w2 ⟨hb2, v, rfl, hown⟩; have HB2 := Hd (HBA.out.trans (hb2.mono HBA.out.size)); obtain ⟨y1, y2, y3, rfl⟩ := Cn hown; clear hb2 hown; go_wp2_with fail; go_ret; exact ⟨Da HF.out, HB2.out⟩
   ·have HOK := Hd (Fn HMM.out.symm); have HBA := Hd (HB.out.alloc HB.out.size (.cells #[.int .u8 (kd : Nat), .slice a1 l1 c1, .slice a2 l2 c2, .slice a3 l3 c3, .int .u8 (s : Nat), .slice a4 l4 c4, .slice a5 l5 c5, .slice b1 l6 e1, .slice b2 l7 e2, .slice b3 l8 e3] 54))
    by_cases hk : kd = 1
    ·have hq : ((kd : Int) == 1) = true := (by rw [beq_iff_eq]; omega); have HF := Hd (HS2.out r hlt (.inl (by rw [← HKD.out, HOK.out, hk]))); clear hk; go_wp2_with (refine wpList_load_mid rfl 54 (.tmp 13) rfl b (off + r * 10) rfl [.int .u8 (kd : Nat), .slice a1 l1 c1, .slice a2 l2 c2, .slice a3 l3 c3, .int .u8 (s : Nat), .slice a4 l4 c4, .slice a5 l5 c5, .slice b1 l6 e1, .slice b2 l7 e2, .slice b3 l8 e3] _ HRA.out Tryz.underlying54 rfl Af ?_); go_ret; exact ⟨Da HF.out, HBA.out⟩
    ·have hq : ((kd : Int) == 1) = false := (by rw [beq_eq_false_iff_ne]; omega); have hq2 : (kd : Int) ≠ 1 := (by omega); have HKN := Hd (show (nd t r).kind ≠ Dn r by rw [← HKD.out, HOK.out]; exact hk); have HNDA := Hd (HND.out.below ((Below.refl wr.heap.size wr).alloc lR (.cells #[.int .u8 (kd : Nat), .slice a1 l1 c1, .slice a2 l2 c2, .slice a3 l3 c3, .int .u8 (s : Nat), .slice a4 l4 c4, .slice a5 l5 c5, .slice b1 l6 e1, .slice b2 l7 e2, .slice b3 l8 e3] 54)) lR); cases hrb : Aq (nd t r) with
     | true =>
      have HRB := Hd hrb; have N1 := Hd (HNB.out r _ _ true hrb HNDA.out); clear hrb hk; go_wp2_with (refine wpList_load_mid rfl 54 (.tmp 13) rfl b (off + r * 10) rfl [.int .u8 (kd : Nat), .slice a1 l1 c1, .slice a2 l2 c2, .slice a3 l3 c3, .int .u8 (s : Nat), .slice a4 l4 c4, .slice a5 l5 c5, .slice b1 l6 e1, .slice b2 l7 e2, .slice b3 l8 e3] _ HRA.out Tryz.underlying54 rfl Af ?_); refine (N1.out).mono ?_; rintro e w2 ⟨hb2, v, rfl, hown⟩; have HB2 := Hd (HBA.out.trans (hb2.mono HBA.out.size)); obtain ⟨y1, y2, y3, rfl⟩ := Cn hown; clear hb2 hown; go_wp2_with fail; go_roundg (gk - 1); case measure => have := HR.out; omega
      case rel =>
       refine ⟨r + 1, by have := HR.out; omega, by go_num, fun i hi => ?_, HB2.out⟩
       by_cases e : i = r
       ·rw [e]; exact ⟨HKN.out, HRB.out⟩
       ·exact HM.out i (by omega)
     | false =>
      have HF := Hd (HS2.out r hlt (.inr hrb)); have N1 := Hd (HNB.out r _ _ false hrb HNDA.out); clear hrb hk; go_wp2_with (refine wpList_load_mid rfl 54 (.tmp 13) rfl b (off + r * 10) rfl [.int .u8 (kd : Nat), .slice a1 l1 c1, .slice a2 l2 c2, .slice a3 l3 c3, .int .u8 (s : Nat), .slice a4 l4 c4, .slice a5 l5 c5, .slice b1 l6 e1, .slice b2 l7 e2, .slice b3 l8 e3] _ HRA.out Tryz.underlying54 rfl Af ?_); refine (N1.out).mono ?_; rintro e w2 ⟨hb2, v, rfl, hown⟩; have HB2 := Hd (HBA.out.trans (hb2.mono HBA.out.size)); obtain ⟨y1, y2, y3, rfl⟩ := Cn hown; clear hb2 hown; go_wp2_with fail; go_ret; exact ⟨Da HF.out, HB2.out⟩
  ·obtain rfl : r = n := (by have := HR.out; omega); have hlt' : decide (r < r) = false := decide_eq_false hlt; go_wp2_with fail; go_ret; exact ⟨Da (HS1.out HM.out), HB.out⟩
def Fo (t : List NodeD) : Bool := t.any fun d => d.kind == 1
theorem Zd {t : List NodeD} {i : Nat} (hi : i < t.length) (h : (nd t i).kind = 1) : Fo t = true := by
 unfold Fo; rw [bZ]; refine ⟨t[i], aJ hi, ?_⟩; rw [nd, aH, aI hi] at h; rw [beq_iff_eq]; exact h
theorem Zcu {t : List NodeD} (h : ∀ i, i < t.length → (nd t i).kind ≠ 1) : Fo t = false := by
 cases hs : Fo t with
 | false => rfl
 | true =>
  unfold Fo at hs; rw [bZ] at hs; obtain ⟨d, hd, hk⟩ := hs; obtain ⟨i, hi, rfl⟩ := dE hd; have := h i hi; rw [nd, aH, aI hi] at this; exact absurd (beq_iff_eq.1 hk) this
theorem Ze (d : NodeD) (c : Array Value) (w : World) (h : NodeC w d c) (hk : d.kind < 256) :
  Calls Tryz.prog 197 #[.agg c] w fun e w' => e = .returned (.bool (d.kind == 1)) ∧ Below w.heap.size w w' := by
 obtain ⟨a1, c1, a2, c2, a3, c3, a4, c4, a5, c5, b1, e1, b2, e2, b3, e3, rfl, _⟩ := h; obtain ⟨k, hk'⟩ : ∃ k, k = d.kind := ⟨_, rfl⟩; rw [← hk'] at hk ⊢; have e : ((k : Int) == 1) = (k == 1) := by
  by_cases h : k = 1
  ·subst h; rfl
  ·rw [beq_eq_false_iff_ne.2 h, beq_eq_false_iff_ne]; omega
 obtain ⟨b, hb⟩ := eX ((k == 1)); rw [← hb] at e ⊢; clear hb hk'; go_enter Tryz.func197, Tryz.ntmps197; go_wp2_with fail; go_ret; exact ⟨rfl, bR.alloc lR _⟩
theorem Ss (v : Value) (t : List NodeD) (w : World) (h : TreeR w v t) (hok : TreeOk t) :
  Calls Tryz.prog 238 #[v, .func (.func 197) #[] #[]] w fun e w' => ∃ r : Int, e = .returned (.int .i64 r) ∧ decide (r ≥ 0) = Fo t ∧ Below w.heap.size w w' := by
 obtain ⟨a, c, rfl, hc, hc2⟩ := h.sl; have SM := fun (i : Nat) (cs : Array Value) (W : World) (hw : NodeC W (nd t i) cs) => Ze (nd t i) cs W hw (hok.nd i).kind; have GN := fun (W : World) (hw : Below w.heap.size w W) (i : Nat) (hi : i < t.length) => (h.below hw lR).node hi; have S1 := fun (i : Nat) (hi : i < t.length) (h : (nd t i).kind = 1) => Zd hi h; have S2 := fun (h : ∀ i, i < t.length → (nd t i).kind ≠ 1) => Zcu h; obtain ⟨n, hn⟩ := eX t.length; obtain ⟨R, hR⟩ := eX (Fo t); rw [← hn] at GN S1 S2 hc ⊢; rw [← hR] at S1 S2 ⊢; have HSM := Hd SM; have HGN := Hd GN; have HS1 := Hd S1; have HS2 := Hd S2; clear SM GN S1 S2 h hn hR hok; go_enter Tryz.func238, Tryz.ntmps238; go_wp2_with fail
 go_loopg [8] n (fun q iv wr => ∃ r : Nat, r + q = n ∧ iv = .int .i64 (r : Nat) ∧ (∀ i, i < r → (nd t i).kind ≠ 1) ∧ Below w.heap.size w wr)
 case atStart => exact ⟨0, by omega, rfl, fun i hi => by omega, bR⟩
 case round =>
  obtain ⟨r, hr, rfl, hsm, hb⟩ := hrel; have HR := Hd hr; have HM := Hd hsm; have HB := Hd hb; clear hr hsm hb
  by_cases hlt : r < n
  ·have hlt' : decide (r < n) = true := decide_eq_true hlt; obtain ⟨b, off, cs, rfl, hbl, hnc, hra⟩ := HGN.out wr HB.out r hlt; have HRA := Hd hra; have HSZ := Hd hnc.size; have CC := HSM.out r cs wr hnc; cases hk : ((nd t r).kind == 1) with
   | true =>
    rw [hk] at CC; have HCC := Hd CC; have HF := Hd (HS1.out r hlt (beq_iff_eq.1 hk)); clear CC hk hra hnc; go_wp2_with (refine wpList_load_mid rfl 54 (.tmp 14) rfl b (off + r * 10) rfl cs.toList _ HRA.out Tryz.underlying54 rfl (by rw [dF, HSZ.out]; exact Af) ?_); refine (HCC.out).mono ?_; rintro e w2 ⟨rfl, hb2⟩; have HB2 := Hd (HB.out.trans (hb2.mono HB.out.size)); clear hb2; go_wp2_with fail; go_ret; exact ⟨(r : Nat), rfl, by rw [HF.out, decide_eq_true_iff]; omega, HB2.out⟩
   | false =>
    rw [hk] at CC; have HCC := Hd CC; have HF := Hd (beq_eq_false_iff_ne.1 hk); clear CC hk hra hnc; go_wp2_with (refine wpList_load_mid rfl 54 (.tmp 14) rfl b (off + r * 10) rfl cs.toList _ HRA.out Tryz.underlying54 rfl (by rw [dF, HSZ.out]; exact Af) ?_); refine (HCC.out).mono ?_; rintro e w2 ⟨rfl, hb2⟩; have HB2 := Hd (HB.out.trans (hb2.mono HB.out.size)); clear hb2; go_wp2_with fail; go_roundg (gk - 1); case measure => have := HR.out; omega
    case rel =>
     refine ⟨r + 1, by have := HR.out; omega, by go_num, fun i hi => ?_, HB2.out⟩
     by_cases e : i = r
     ·rw [e]; exact HF.out
     ·exact HM.out i (by omega)
  ·obtain rfl : r = n := (by have := HR.out; omega); have hlt' : decide (r < r) = false := decide_eq_false hlt; go_wp2_with fail; go_ret; exact ⟨-1, rfl, by rw [HS2.out HM.out]; rfl, HB.out⟩
theorem Qd (v : Value) (t : List NodeD) (w : World) (h : TreeR w v t) (hok : TreeOk t) :
  Calls Tryz.prog 131 #[v] w fun e w' => e = .returned (.bool (Fo t)) ∧ Below w.heap.size w w' := by
 have IX := Ss v t w h hok; have CF : Calls Tryz.prog 196 #[v, .func (.func 197) #[] #[]] w fun e w' => e = .returned (.bool (Fo t)) ∧ Below w.heap.size w w' := by
  obtain ⟨a, c, rfl, hc, hc2⟩ := h.sl; have HIX := Hd IX; obtain ⟨R, hR⟩ := eX (Fo t); rw [← hR] at HIX ⊢; obtain ⟨n, hn⟩ := eX t.length; rw [← hn] at HIX ⊢; clear IX h hR hn hc hc2 hok; go_enter Tryz.func196, Tryz.ntmps196; go_wp2_with fail; refine (HIX.out).mono ?_; rintro e w2 ⟨r, rfl, hr, hb⟩; have HB := Hd hb; have HR := Hd hr; clear hb hr; go_wp2_with fail; go_ret; exact ⟨Da HR.out.symm, HB.out⟩
 obtain ⟨a, c, rfl, hc, hc2⟩ := h.sl; have HCF := Hd CF; obtain ⟨R, hR⟩ := eX (Fo t); rw [← hR] at HCF ⊢; obtain ⟨n, hn⟩ := eX t.length; rw [← hn] at HCF ⊢; clear IX CF h hR hn hc hc2 hok; go_enter Tryz.func131, Tryz.ntmps131; go_wp2_with fail; refine (HCF.out).mono ?_; rintro e w2 ⟨rfl, hb⟩; have HB := Hd hb; clear hb; go_wp2_with fail; go_ret; exact ⟨rfl, HB.out⟩
end Go.Proofs.YtngealmhgkoaiaaGreat
