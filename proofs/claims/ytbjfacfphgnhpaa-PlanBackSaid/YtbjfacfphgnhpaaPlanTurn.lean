/- Walks: plan.Turn, the reference's Turned and At. -/
import Derived.Test.YtbjfacfphgnhpaaPlanAt
import Derived.Test.YtbjfacfphgnhpaaPlanPlaces
namespace Go.Proofs.Ytbjfacfphgnhpaa
open Go.RowKit WalkM FloatM
set_option linter.unusedVariables false
/-- how many quarters -/
def qrt (q : Int) : Nat := (Int.tmod (Int.tmod q 4 + 4) 4).toNat
theorem tmod4 (q : Int) : -3 ≤ Int.tmod q 4 ∧ Int.tmod q 4 ≤ 3 := by
  rcases Int.le_total 0 q with h | h
  · rw [Int.tmod_eq_emod_of_nonneg h]; omega
  · have := Int.neg_tmod (a := -q) (b := 4)
    rw [Int.neg_neg] at this
    rw [this, Int.tmod_eq_emod_of_nonneg (by omega)]; omega
theorem qrt_eq (q : Int) : qrt q ≤ 3 ∧ Int.tmod (Int.tmod q 4 + 4) 4 = (qrt q : Int) ∧ (Int.tmod q 4 + 4) % 4 = (qrt q : Int) := by
  have h := tmod4 q
  have e : Int.tmod (Int.tmod q 4 + 4) 4 = (Int.tmod q 4 + 4) % 4 := Int.tmod_eq_emod_of_nonneg (by omega)
  unfold qrt
  rw [e]
  omega
/-- what stands at a node's place turned -/
def turnR (x n q : Int) : Option Int := if isOf x n = true then atZ (turnN (qrt q) (plX x n, plY x n)).1 (turnN (qrt q) (plX x n, plY x n)).2 n else none
def TurnP (R : Option Int) (w : World) (e : Ending) (w' : World) : Prop := e = .returned (.tuple #[.int .i64 (R.getD 0), .bool R.isSome]) ∧ Below w.heap.size w w'
set_option maxRecDepth 100000 in
set_option maxHeartbeats 4000000 in
theorem turn_any (x n q : Int) (w : World) (h1 : -9223372036854775808 ≤ n) (h2 : n ≤ 9223372036854775807) (h3 : -9223372036854775808 ≤ q) (h4 : q ≤ 9223372036854775807) :
    Calls Try.prog 47 #[.int .i64 x, .int .i64 n, .int .i64 q] w (TurnP (turnR x n q) w) := by
  have P := fun w => place_any x n w h1 h2
  unfold PlaceP at P
  by_cases ho : isOf x n = true
  · have hn := isOf_bd ho
    have eR : turnR x n q = atZ (turnN (qrt q) (plX x n, plY x n)).1 (turnN (qrt q) (plX x n, plY x n)).2 n := by rw [turnR, if_pos ho]
    obtain ⟨hq3, hq1, hq2⟩ := qrt_eq q
    obtain ⟨ht1, ht2⟩ := tmod4 q
    have hb := pl_bd x n
    obtain ⟨X, hX⟩ : ∃ X, X = plX x n := ⟨_, rfl⟩
    obtain ⟨Y, hY⟩ : ∃ X, X = plY x n := ⟨_, rfl⟩
    rw [← hX, ← hY] at eR hb P
    rw [ho] at P
    have hTB := fun k => turnN_bd k (z := (X, Y)) (b := 4096) ⟨by simp only; omega, by simp only; omega⟩
    have AT : ∀ (re im : Nat), IsF re (turnN (qrt q) (X, Y)).1 → IsF im (turnN (qrt q) (X, Y)).2 → ∀ w : World, Calls Try.prog 50 #[.complex .f64 re im, .int .i64 n] w (AtP (atZ (turnN (qrt q) (X, Y)).1 (turnN (qrt q) (X, Y)).2 n) w) := by
      intro re im hre him w
      obtain ⟨d, hd, rfl⟩ := fits_out (n := n) (by have := ho; rw [isOf, Bool.and_eq_true] at this; exact this.1)
      exact pat_on d re im _ _ hd hre him (by have := hTB (qrt q); omega) (by have := hTB (qrt q); omega) w
    rw [← eR] at AT
    unfold AtP at AT
    obtain ⟨R, hR⟩ : ∃ R, R = turnR x n q := ⟨_, rfl⟩
    rw [← hR] at AT ⊢
    obtain ⟨Q, hQ⟩ : ∃ Q, Q = qrt q := ⟨_, rfl⟩
    rw [← hQ] at AT hq1 hq2 hq3
    have HP := Lib.hid P
    have HAT := Lib.hid AT
    have HTB := Lib.hid hTB
    have HQ1 := Lib.hid hq1
    have HQ2 := Lib.hid hq2
    clear P AT eR hb hX hY ho hn hR hQ hTB hq1 hq2
    go_enter Try.func47, Try.ntmps47
    go_wp2_with fail
    refine (HP.out _).mono ?_
    rintro e w1 ⟨v1, rfl, ⟨a, b, rfl, ha, hb⟩, hb1⟩
    have HA := Lib.hid ha
    have HB := Lib.hid hb
    have HB1 := Lib.hid hb1
    clear ha hb hb1
    go_wp2_with fail
    rw [HQ2.out]
    go_loopg [8, 22] Q (fun r z i wr => ∃ (k re im : Nat), k + r = Q ∧ i = .int .i64 (k : Int) ∧ z = .complex .f64 re im ∧ IsF re (turnN k (X, Y)).1 ∧ IsF im (turnN k (X, Y)).2 ∧ wr = w1)
    case atStart => exact ⟨0, a, b, by omega, rfl, rfl, HA.out, HB.out, rfl⟩
    case round =>
      obtain ⟨k, re, im, hk, rfl, rfl, hre, him, rfl⟩ := hrel
      have hkb := HTB.out k
      by_cases hkQ : k < Q
      · have hd : decide ((k : Int) < (Q : Int)) = true := by rw [decide_eq_true_iff]; omega
        obtain ⟨re2, im2, hs, k1, k2⟩ := cmul_i hre him (by omega) (by omega)
        have hmul := fun w => run_complex_mul (P := Try.prog) w 25 _ _ _ _ _ _ hs
        have K1 := Lib.hid k1
        have K2 := Lib.hid k2
        clear hs k1 k2 hre him hkb
        go_wp2_with fail
        go_roundg (gk - 1)
        case measure => omega
        case rel => exact ⟨k + 1, _, _, by omega, by go_num, rfl, K1.out, K2.out, rfl⟩
      · obtain rfl : k = Q := by omega
        have hd : decide ((k : Int) < (k : Int)) = false := by rw [decide_eq_false_iff_not]; omega
        have HA2 := Lib.hid (HAT.out re im hre him)
        clear hre him hkb
        go_wp2_with fail
        refine (HA2.out _).mono ?_
        rintro e w' ⟨rfl, rfl⟩
        go_wp2_with fail
        go_ret2
        exact ⟨rfl, HB1.out⟩
  · have hf : isOf x n = false := by rw [← Bool.not_eq_true]; exact ho
    have eR : turnR x n q = none := by rw [turnR, if_neg ho]
    rw [eR]
    rw [hf] at P
    have HP := Lib.hid P
    clear P hf ho eR
    go_enter Try.func47, Try.ntmps47
    go_wp2_with fail
    refine (HP.out _).mono ?_
    rintro e w1 ⟨v1, rfl, _, hb1⟩
    have HB1 := Lib.hid hb1
    clear hb1
    go_wp2_with fail
    go_ret2
    exact ⟨rfl, HB1.out⟩
theorem wrap_neg {a : Int} (h1 : -4096 ≤ a) (h2 : a ≤ 4096) : wrap64 (-a) = -a := by unfold wrap64; omega
/-- one result, a struct's variable -/
theorem results_row1 {P : Program} {fn : Func} {p : Tmp} {ty : TypeId} (h : fn.results = #[.cell p ty]) (tmps : Array Value) (w : World) (g : Nat) (t : TypeId) (cs : Array Value) (d : TypeDesc)
    (hp : tmps.getD p undef = .pointer (some ⟨g, 0, none⟩)) (hg : Blk w g t cs)
    (hu : P.underlying ty = some d) (hd : (match d with | .struct _ | .array _ _ => true | _ => false) = true) (hi : (P.info? ty).map (·.size) = some cs.size) :
    (results fn tmps).run P w = .ok (.agg cs) w := by
  have hp' : tmps[p]?.getD undef = .pointer (some ⟨g, 0, none⟩) := by simpa using hp
  simp [results, h, hp', asAddr, run_loadVar_row w g t ty cs (0, 0) d hg hu hd hi]
def RTP (Q : Nat) (z : Int × Int) (w : World) (e : Ending) (w' : World) : Prop := e = .returned (.agg #[.int .i64 (turnN Q z).1, .int .i64 (turnN Q z).2]) ∧ Below w.heap.size w w'
set_option maxRecDepth 100000 in
set_option maxHeartbeats 4000000 in
theorem rturned_any (X Y q : Int) (w : World) (hX : -4096 ≤ X ∧ X ≤ 4096) (hY : -4096 ≤ Y ∧ Y ≤ 4096) (h3 : -9223372036854775808 ≤ q) (h4 : q ≤ 9223372036854775807) :
    Calls Try.prog 49 #[.agg #[.int .i64 X, .int .i64 Y], .int .i64 q] w (RTP (qrt q) (X, Y) w) := by
  obtain ⟨hq3, hq1, hq2⟩ := qrt_eq q
  obtain ⟨ht1, ht2⟩ := tmod4 q
  have hTB := fun k => turnN_bd k (z := (X, Y)) (b := 4096) ⟨hX, hY⟩
  have hk1 : Int.tmod q 4 < 0 → Int.tmod q 4 + 4 = (qrt q : Int) := fun h => by omega
  have hk2 : ¬ Int.tmod q 4 < 0 → Int.tmod q 4 = (qrt q : Int) := fun h => by omega
  obtain ⟨Q, hQ⟩ : ∃ Q, Q = qrt q := ⟨_, rfl⟩
  rw [← hQ] at hq3 hk1 hk2 ⊢
  have eP : ∀ e w', RTP Q (X, Y) w e w' ↔ e = .returned (.agg #[.int .i64 (turnN Q (X, Y)).1, .int .i64 (turnN Q (X, Y)).2]) ∧ Below w.heap.size w w' := fun _ _ => Iff.rfl
  have HEP := Lib.hid eP
  have HTB := Lib.hid hTB
  by_cases hneg : Int.tmod q 4 < 0
  · have HK := Lib.hid (hk1 hneg)
    clear hq1 hq2 hQ hTB hX hY hk1 hk2 eP
    go_enter Try.func49, Try.ntmps49
    go_wp2_with fail
    rw [HK.out]
    go_loopg [6] Q (fun r i wr => ∃ k : Nat, k + r = Q ∧ i = .int .i64 (k : Int) ∧ Blk wr w.heap.size 29 #[.int .i64 (turnN k (X, Y)).1, .int .i64 (turnN k (X, Y)).2] ∧ Blk wr (w.heap.size + 1) 29 #[.int .i64 0, .int .i64 0] ∧ Below w.heap.size w wr)
    case atStart => exact ⟨0, by omega, rfl, (Blk.new _ _ _).alloc _, by have := Blk.new (w.alloc (.cells #[.int .i64 X, .int .i64 Y] 29)) 29 #[.int .i64 0, .int .i64 0]; simpa using this, ((Below.refl _ _).alloc (Nat.le_refl _) _).alloc (by simp) _⟩
    case round =>
      obtain ⟨k, hk, rfl, hk1, hk2, hbw⟩ := hrel
      obtain ⟨hb1, hb2⟩ := HTB.out k
      have e1 : (turnN (k + 1) (X, Y)).1 = -(turnN k (X, Y)).2 := rfl
      have e2 : (turnN (k + 1) (X, Y)).2 = (turnN k (X, Y)).1 := rfl
      have HE1 := Lib.hid e1
      have HE2 := Lib.hid e2
      obtain ⟨U, hU⟩ : ∃ U, U = (turnN k (X, Y)).1 := ⟨_, rfl⟩
      obtain ⟨V, hV⟩ : ∃ U, U = (turnN k (X, Y)).2 := ⟨_, rfl⟩
      rw [← hU] at hk1 hb1 HE2
      rw [← hV] at hk1 hb2 HE1
      have HU := Lib.hid hU
      have HV := Lib.hid hV
      obtain ⟨u1, u2⟩ := hb1
      obtain ⟨v1, v2⟩ := hb2
      have HK1 := Lib.hid hk1
      have HK2 := Lib.hid hk2
      have HBW := Lib.hid hbw
      clear hU hV e1 e2 hk1 hk2 hbw
      by_cases hkQ : k < Q
      · have hd : decide ((k : Int) < (Q : Int)) = true := by rw [decide_eq_true_iff]; omega
        have y0 := HK1.out.cell 0
        have y1 := HK1.out.cell 1
        have hwn := wrap_neg v1 v2
        simp only [List.getElem?_toArray, List.getElem?_cons_zero, List.getElem?_cons_succ] at y0 y1
        go_wp2_with (refine wpList_store_blk rfl 29 (.tmp 2) (.tmp 23) rfl w.heap.size #[.int .i64 (-V), .int .i64 U] rfl rfl _ _ HK1.out (by kernel_rfl) rfl rfl ?_)
        rintro w2 hk2 hb2 hot -
        have HK12 := Lib.hid hk2
        have HK22 : Hid (Blk w2 (w.heap.size + 1) 29 #[.int .i64 0, .int .i64 0]) := Lib.hid ((hot _ (by omega)).trans HK2.out)
        have HB2 := Lib.hid (HBW.out.trans (hb2 _ (Nat.le_refl _)))
        clear hk2 hb2 hot y0 y1 hwn
        go_wp2_with fail
        go_roundg (gk - 1)
        case measure => omega
        case rel => exact ⟨k + 1, by omega, by go_num, by rw [HE1.out, HE2.out]; exact HK12.out, HK22.out, HB2.out⟩
      · obtain rfl : k = Q := by omega
        have hd : decide ((k : Int) < (k : Int)) = false := by rw [decide_eq_false_iff_not]; omega
        have hlt := HK2.out.lt
        have y0 := HK1.out.cell 0
        have y1 := HK1.out.cell 1
        simp only [List.getElem?_toArray, List.getElem?_cons_zero, List.getElem?_cons_succ] at y0 y1
        go_wp2_with (refine wpList_store_blk rfl 29 (.tmp 4) (.tmp 24) rfl (w.heap.size + 1) #[.int .i64 U, .int .i64 V] rfl rfl _ _ HK2.out (by kernel_rfl) rfl rfl ?_)
        rintro w2 hk2 hb2 hot -
        have HB2 := Lib.hid (HBW.out.trans (hb2 _ (by omega)))
        have hfin := (HEP.out (.returned (.agg #[.int .i64 U, .int .i64 V])) w2).2 ⟨by rw [HU.out, HV.out], HB2.out⟩
        have HF := Lib.hid hfin
        have HK12 := Lib.hid hk2
        clear hk2 hb2 hot y0 y1 hfin
        go_wp2_with fail
        refine bodyPost_ret (v := .agg #[.int .i64 U, .int .i64 V]) (results_row1 Try.results49 _ _ (w.heap.size + 1) _ _ _ rfl HK12.out Try.underlying29 rfl (by kernel_rfl)) rfl HF.out
  · have HK := Lib.hid (hk2 hneg)
    clear hq1 hq2 hQ hTB hX hY hk1 hk2 eP
    go_enter Try.func49, Try.ntmps49
    go_wp2_with fail
    rw [HK.out]
    go_loopg [6] Q (fun r i wr => ∃ k : Nat, k + r = Q ∧ i = .int .i64 (k : Int) ∧ Blk wr w.heap.size 29 #[.int .i64 (turnN k (X, Y)).1, .int .i64 (turnN k (X, Y)).2] ∧ Blk wr (w.heap.size + 1) 29 #[.int .i64 0, .int .i64 0] ∧ Below w.heap.size w wr)
    case atStart => exact ⟨0, by omega, rfl, (Blk.new _ _ _).alloc _, by have := Blk.new (w.alloc (.cells #[.int .i64 X, .int .i64 Y] 29)) 29 #[.int .i64 0, .int .i64 0]; simpa using this, ((Below.refl _ _).alloc (Nat.le_refl _) _).alloc (by simp) _⟩
    case round =>
      obtain ⟨k, hk, rfl, hk1, hk2, hbw⟩ := hrel
      obtain ⟨hb1, hb2⟩ := HTB.out k
      have e1 : (turnN (k + 1) (X, Y)).1 = -(turnN k (X, Y)).2 := rfl
      have e2 : (turnN (k + 1) (X, Y)).2 = (turnN k (X, Y)).1 := rfl
      have HE1 := Lib.hid e1
      have HE2 := Lib.hid e2
      obtain ⟨U, hU⟩ : ∃ U, U = (turnN k (X, Y)).1 := ⟨_, rfl⟩
      obtain ⟨V, hV⟩ : ∃ U, U = (turnN k (X, Y)).2 := ⟨_, rfl⟩
      rw [← hU] at hk1 hb1 HE2
      rw [← hV] at hk1 hb2 HE1
      have HU := Lib.hid hU
      have HV := Lib.hid hV
      obtain ⟨u1, u2⟩ := hb1
      obtain ⟨v1, v2⟩ := hb2
      have HK1 := Lib.hid hk1
      have HK2 := Lib.hid hk2
      have HBW := Lib.hid hbw
      clear hU hV e1 e2 hk1 hk2 hbw
      by_cases hkQ : k < Q
      · have hd : decide ((k : Int) < (Q : Int)) = true := by rw [decide_eq_true_iff]; omega
        have y0 := HK1.out.cell 0
        have y1 := HK1.out.cell 1
        have hwn := wrap_neg v1 v2
        simp only [List.getElem?_toArray, List.getElem?_cons_zero, List.getElem?_cons_succ] at y0 y1
        go_wp2_with (refine wpList_store_blk rfl 29 (.tmp 2) (.tmp 23) rfl w.heap.size #[.int .i64 (-V), .int .i64 U] rfl rfl _ _ HK1.out (by kernel_rfl) rfl rfl ?_)
        rintro w2 hk2 hb2 hot -
        have HK12 := Lib.hid hk2
        have HK22 : Hid (Blk w2 (w.heap.size + 1) 29 #[.int .i64 0, .int .i64 0]) := Lib.hid ((hot _ (by omega)).trans HK2.out)
        have HB2 := Lib.hid (HBW.out.trans (hb2 _ (Nat.le_refl _)))
        clear hk2 hb2 hot y0 y1 hwn
        go_wp2_with fail
        go_roundg (gk - 1)
        case measure => omega
        case rel => exact ⟨k + 1, by omega, by go_num, by rw [HE1.out, HE2.out]; exact HK12.out, HK22.out, HB2.out⟩
      · obtain rfl : k = Q := by omega
        have hd : decide ((k : Int) < (k : Int)) = false := by rw [decide_eq_false_iff_not]; omega
        have hlt := HK2.out.lt
        have y0 := HK1.out.cell 0
        have y1 := HK1.out.cell 1
        simp only [List.getElem?_toArray, List.getElem?_cons_zero, List.getElem?_cons_succ] at y0 y1
        go_wp2_with (refine wpList_store_blk rfl 29 (.tmp 4) (.tmp 24) rfl (w.heap.size + 1) #[.int .i64 U, .int .i64 V] rfl rfl _ _ HK2.out (by kernel_rfl) rfl rfl ?_)
        rintro w2 hk2 hb2 hot -
        have HB2 := Lib.hid (HBW.out.trans (hb2 _ (by omega)))
        have hfin := (HEP.out (.returned (.agg #[.int .i64 U, .int .i64 V])) w2).2 ⟨by rw [HU.out, HV.out], HB2.out⟩
        have HF := Lib.hid hfin
        have HK12 := Lib.hid hk2
        clear hk2 hb2 hot y0 y1 hfin
        go_wp2_with fail
        refine bodyPost_ret (v := .agg #[.int .i64 U, .int .i64 V]) (results_row1 Try.results49 _ _ (w.heap.size + 1) _ _ _ rfl HK12.out Try.underlying29 rfl (by kernel_rfl)) rfl HF.out
end Go.Proofs.Ytbjfacfphgnhpaa
