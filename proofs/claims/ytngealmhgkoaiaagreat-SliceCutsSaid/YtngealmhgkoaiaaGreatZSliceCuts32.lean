/- Walks: the reference's Members, Is; tree.member. -/
import Derived.Test.YtngealmhgkoaiaaGreatZSliceCutsB
import Derived.Test.YtngealmhgkoaiaaGreatZSliceCuts25
import Derived.Test.YtngealmhgkoaiaaGreatZSliceCuts22
import Derived.Test.YtngealmhgkoaiaaGreatZSliceCuts08
open List renaming range → aF, range_succ → dV, filter_append → fB, map_append → fC, mem_map → eW, mem_filter → bY, mem_range → fD, any_eq_true → bZ, getD_eq_getElem?_getD → aH, getElem?_eq_getElem → aI
set_option linter.unusedVariables false
set_option maxRecDepth 100000
set_option maxHeartbeats 40000000
namespace Go.Proofs.YtngealmhgkoaiaaGreat
open Go.RowKit WalkM WireM
def Cv (t : List NodeD) (m : Nat) : List Int := ((aF m).filter fun i => (nd t (2 * i)).kind == 1).map fun i => ((i : Nat) : Int)
theorem Zah {t : List NodeD} {m : Nat} (h : (nd t (2 * m)).kind = 1) : Cv t (m + 1) = Cv t m ++ [((m : Nat) : Int)] := by
 unfold Cv; rw [dV, fB, fC]
 congr 1
 rw [List.filter_cons_of_pos (by rw [h]; rfl)]; rfl
theorem Zdn {t : List NodeD} {m : Nat} (h : (nd t (2 * m)).kind ≠ 1) : Cv t (m + 1) = Cv t m := by
 unfold Cv; rw [dV, fB, fC, List.filter_cons_of_neg (by simpa using h)]; simp
theorem Zai (t : List NodeD) (m : Nat) : (Cv t m).length ≤ m := by
 unfold Cv; rw [List.length_map]; exact Nat.le_trans (List.length_filter_le _ _) (by simp)
theorem mem_iff (t : List NodeD) (m : Nat) (i : Nat) : ((i : Nat) : Int) ∈ Cv t m ↔ i < m ∧ (nd t (2 * i)).kind = 1 := by
 unfold Cv; simp only [eW, bY, fD, beq_iff_eq]; constructor
 ·rintro ⟨j, ⟨h1, h2⟩, e⟩; have : j = i := (by omega); subst this; exact ⟨h1, h2⟩
 ·rintro ⟨h1, h2⟩; exact ⟨i, ⟨h1, h2⟩, rfl⟩
theorem Zff (t : List NodeD) (m : Nat) {i : Int} (h : i < 0) : i ∉ Cv t m := by
 unfold Cv; simp only [eW, bY, fD]; rintro ⟨j, _, e⟩; omega
theorem Qt (v : Value) (t : List NodeD) (hh : Nat) (w : World) (h : TreeR w v t) (hok : TreeOk t) (hlen : t.length = 2 * hh + 1) (hl : hh ≤ 1000) :
  Calls Tryz.prog 117 #[v] w fun e w' => ∃ v', e = .returned v' ∧ Own w' w.heap.size 3 v' (ivs .i64 (Cv t (hh + 1))) ∧ Below w.heap.size w w' := by
 obtain ⟨a, c, rfl, hc, hc2⟩ := h.sl; have GA := fun (W : World) (hw : Below w.heap.size w W) (i : Nat) (hi : i < t.length) => (h.below hw lR).at hi; have K := fun (i : Nat) => (hok.nd i).kind; obtain ⟨n, hn⟩ := eX t.length; rw [← hn] at GA hc hlen ⊢; have HGA := Hd GA; have HK := Hd K; have HLEN := Hd hlen; have hn2 : n ≤ 2001 := (by omega); clear GA K h hn hok hlen; go_enter Tryz.func117, Tryz.ntmps117; go_wp2_with fail
 go_loopg [3, 4] (hh + 1) (fun q ov iv wr => ∃ r : Nat, r + q = hh + 1 ∧ iv = .int .i64 (r : Nat) ∧ Own wr w.heap.size 3 ov (ivs .i64 (Cv t r)) ∧ Below w.heap.size w wr)
 case atStart => exact ⟨0, by omega, rfl, Own.nil _ _ _, bR⟩
 case round =>
  obtain ⟨r, hr, rfl, hown, hb⟩ := hrel; have HR := Hd hr; have HO := Hd hown; have HB := Hd hb; have hw : wrap64 (2 * (r : Int)) = 2 * (r : Int) := by unfold wrap64; omega
  by_cases hlt : r < hh + 1
  ·have hlt' : decide (2 * (r : Int) < (n : Int)) = true := decide_eq_true (by have := HLEN.out; omega); have hltN : 2 * r < n := (by have := HLEN.out; omega); have hltI : 2 * (r : Int) < (n : Int) := (by omega); have hm2 : (2 * (r : Int)).toNat = 2 * r := (by omega); obtain ⟨b, off, l1, e1, rfl, hbl, ck, -, -⟩ := HGA.out wr hb (2 * r) hltN; have hkd0 := HK.out (2 * r); obtain ⟨kd, hkd⟩ := eX ((nd t (2 * r)).kind); rw [← hkd] at ck hkd0; have HKD := Hd hkd; obtain ⟨p1, p2, p3, rfl⟩ := Cn hown; have hml := Zai t r; have HML := Hd hml; clear hr hown hb hkd hml
   by_cases hk : kd = 1
   ·have hq1 : ((kd : Int) == 1) = true := (by rw [beq_iff_eq]; omega); have HE := Hd (Zah (t := t) (m := r) (by rw [← HKD.out]; exact hk)); clear hk; go_wp2_with (at_builtin; refine Ak rfl (.tmp 19) (.tmp 21) 50 rfl w.heap.size 3 _ 8 Bx _ _ rfl (HO.out.alloc _) ⟨wr.heap.size, 0, none⟩ (.int .i64 (r : Nat)) rfl ?c1 rfl ?c2 ?c3 ?_); case c1 => exact Ar rfl
    case c2 => rw [Hf]; have := HML.out; omega
    case c3 => have := HB.out.size; simp; omega
    rintro v' w1 hown1 - hb1; have HO1 := Hd hown1; have HB1 := Hd ((HB.out.alloc HB.out.size (.cells #[.int .i64 (r : Nat)] 3)).trans hb1); clear hown1 hb1; go_wp2_with fail; go_roundg (gk - 1); case measure => have := HR.out; omega
    case rel =>
     refine ⟨r + 1, by have := HR.out; omega, by go_num, ?_, HB1.out⟩; rw [HE.out]; have := HO1.out; simpa [ivs] using this
   ·have hq1 : ((kd : Int) == 1) = false := (by rw [beq_eq_false_iff_ne]; omega); have hq2 : (kd : Int) ≠ 1 := (by omega); have HE := Hd (Zdn (t := t) (m := r) (by rw [← HKD.out]; exact hk)); clear hk; go_wp2_with fail; go_roundg (gk - 1); case measure => have := HR.out; omega
    case rel =>
     refine ⟨r + 1, by have := HR.out; omega, by go_num, ?_, HB.out⟩; rw [HE.out]; exact HO.out
  ·have hlt' : decide (2 * (r : Int) < (n : Int)) = false := decide_eq_false (by have := HLEN.out; have := HR.out; omega); have hrr : r = hh + 1 := (by have := HR.out; omega); have HO2 := Hd (show Own wr w.heap.size 3 _ (ivs .i64 (Cv t (hh + 1))) from by rw [← hrr]; exact hown); clear hr hown hb hlt hrr; go_wp2_with fail; go_ret; exact ⟨_, rfl, HO2.out, HB.out⟩
theorem Zfg (v : Value) (t : List NodeD) (hh : Nat) (i : Int) (w : World) (h : TreeR w v t) (hok : TreeOk t) (hlen : t.length = 2 * hh + 1) (hl : hh ≤ 1000) :
  Calls Tryz.prog 59 #[v, .int .i64 i] w fun e w' => e = .returned (.bool (decide (i ∈ Cv t (hh + 1)))) ∧ Below w.heap.size w w' := by
 have MB := Qt v t hh w h hok hlen hl; obtain ⟨a, c, rfl, hc, hc2⟩ := h.sl; obtain ⟨M, hM⟩ := eX (Cv t (hh + 1)); rw [← hM] at MB ⊢; obtain ⟨n, hn⟩ := eX t.length; rw [← hn] at MB ⊢; have HMB := Hd MB; obtain ⟨R, hR⟩ := eX (decide (i ∈ M)); rw [← hR]; have HH := Hd (fun (W : World) (u : Value) (hu : Rd W u (ivs .i64 M)) => (show Calls Tryz.prog 74 #[u, .int .i64 i] W fun e w' => e = .returned (.bool R) ∧ w' = W from by rw [hR]; exact Up u M i W hu)); clear MB h hok hlen hl hM hn hR hc; go_enter Tryz.func59, Tryz.ntmps59; go_wp2_with fail; refine (HMB.out).mono ?_; rintro e w1 ⟨v1, rfl, hown, hb⟩; have HB := Hd hb; have HR1 := Hd hown.rd; obtain ⟨p1, p2, p3, rfl⟩ := Cn hown; clear hown hb; go_wp2_with fail; refine (HH.out w1 _ HR1.out).mono ?_; rintro e w2 ⟨rfl, rfl⟩; go_wp2_with fail; go_ret; exact ⟨rfl, HB.out⟩
def inR (k x y : Nat) : Prop := x + 1 ≤ y + 2 ^ k ∧ y < x + 2 ^ k
instance decInR (k x y : Nat) : Decidable (inR k x y) := inferInstanceAs (Decidable (_ ∧ _))
theorem Tg {x y k : Nat} (hx : x ≤ 131070) (hy : y ≤ 131070) (hl : IsLev x k) : Bl (y : Int) (x : Int) = true ↔ inR k x y := by
 have hlx := lev_eq hx hl; rw [Sy hy hx, hlx, decide_eq_true_iff]; have hs := anc_self hl; rw [anc_plo] at hs; have e : phi x k = plo x k + (2 ^ (k + 1) - 2) := rfl; have e1 : 2 ^ (k + 1) = 2 * 2 ^ k := (by rw [Nat.pow_succ]; omega); have hp : 0 < 2 ^ k := Nat.pos_of_ne_zero (by simp); unfold inR; omega
theorem Zhl (m x : Nat) : Bl (2 * (m : Int)) (x : Int) = Bl ((2 * m : Nat) : Int) (x : Int) := by rw [Int.natCast_mul]; rfl
end Go.Proofs.YtngealmhgkoaiaaGreat
namespace Go.Proofs.YtngealmhgkoaiaaGreat
open Go.RowKit WalkM
def Mn (t : List NodeD) (N r : Nat) : Bool := (aF r).any fun i => (nd t i).kind == 1 && (N == 1 || decide (N ≤ i))
theorem Wx (t : List NodeD) (N r : Nat) : Mn t N (r + 1) = (Mn t N r || ((nd t r).kind == 1 && (N == 1 || decide (N ≤ r)))) := by
 unfold Mn; rw [dV, List.any_append]; simp
theorem Zaj {t : List NodeD} {N : Nat} (h : Al t.length = N) (hN : N ≤ t.length) : Mn t N t.length = Mm t := by
 have key : Mn t N t.length = true ↔ Mm t = true := by
  unfold Mn Mm Fo; rw [h, bZ]; constructor
  ·rintro ⟨i, hi, hk⟩; rw [fD] at hi; rw [Bool.and_eq_true, beq_iff_eq, Bool.or_eq_true, beq_iff_eq, decide_eq_true_iff] at hk; have hd : (nd t i) = t[i] := by rw [nd, aH, aI hi]; rfl
   by_cases h1 : N = 1
   ·rw [if_pos h1, bZ]; exact ⟨t[i], List.getElem_mem hi, by rw [← hd, beq_iff_eq]; exact hk.1⟩
   ·rw [if_neg h1, bZ]; have hni : N ≤ i := by rcases hk.2 with h2 | h2; exact absurd h2 h1; exact h2
    refine ⟨t[i], ?_, by rw [← hd, beq_iff_eq]; exact hk.1⟩; rw [List.mem_drop_iff_getElem]; exact ⟨i - N, by omega, by congr 1; omega⟩
  ·intro hs
   by_cases h1 : N = 1
   ·rw [if_pos h1, bZ] at hs; obtain ⟨d, hd, hk⟩ := hs; obtain ⟨i, hi, rfl⟩ := List.getElem_of_mem hd; refine ⟨i, List.mem_range.2 hi, ?_⟩; have hd : (nd t i) = t[i] := (by rw [nd, aH, aI hi]; rfl); rw [hd, hk, h1]; rfl
   ·rw [if_neg h1, bZ] at hs; obtain ⟨d, hd, hk⟩ := hs; obtain ⟨i, hi, e⟩ := List.mem_drop_iff_getElem.1 hd; refine ⟨N + i, List.mem_range.2 (by omega), ?_⟩; have hd : (nd t (N + i)) = d := (by rw [nd, aH, aI (by omega), ← e]; rfl); rw [hd, hk, Bool.true_and, Bool.or_eq_true, decide_eq_true_iff]; exact .inr (by omega)
 cases h1 : Mn t N t.length <;> cases h2 : Mm t <;> simp_all
end Go.Proofs.YtngealmhgkoaiaaGreat
