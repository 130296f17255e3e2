/- Walks: the reference's Place. -/
import Derived.Test.YtbjfacfphgnhpaaPlanPlace
namespace Go.Proofs.Ytbjfacfphgnhpaa
open Go.RowKit WalkM FloatM
set_option linter.unusedVariables false
theorem Blk.set {w : World} {g : Nat} {t : TypeId} {cs : Array Value} (h : Blk w g t cs) (i : Nat) (u : Value) : Blk (w.setCell ⟨g, i, none⟩ u) g t (cs.setIfInBounds i u) := heap_setCell_same w g i cs t u h
theorem Blk.far {w : World} {g : Nat} {t : TypeId} {cs : Array Value} (h : Blk w g t cs) {p : Addr} (hp : g ≠ p.block) (u : Value) : Blk (w.setCell p u) g t cs := (Below.heap_setCell w p u g hp).trans h
def topX (m d : Nat) : Nat → Int
  | 0 => 0
  | r + 1 => topX m d r + sgn m (d - r) * strX ((d - r : Nat) : Int)
def topY (m d : Nat) : Nat → Int
  | 0 => 0
  | r + 1 => topY m d r + sgn m (d - r) * strY ((d - r : Nat) : Int)
theorem topX_first (m d : Nat) : ∀ r, topX m (d + 1) (r + 1) = sgn m (d + 1) * strX ((d + 1 : Nat) : Int) + topX m d r := by
  intro r
  induction r with
  | zero => simp [topX]
  | succ r ih =>
    rw [topX, ih, topX, show d + 1 - (r + 1) = d - r by omega]
    omega
theorem topY_first (m d : Nat) : ∀ r, topY m (d + 1) (r + 1) = sgn m (d + 1) * strY ((d + 1 : Nat) : Int) + topY m d r := by
  intro r
  induction r with
  | zero => simp [topY]
  | succ r ih =>
    rw [topY, ih, topY, show d + 1 - (r + 1) = d - r by omega]
    omega
theorem topX_sum (m a : Nat) : ∀ k, topX m (a + k) k = sumX m a k := by
  intro k
  induction k with
  | zero => rfl
  | succ k ih =>
    rw [← Nat.add_assoc, topX_first, ih, sumX]
    omega
theorem topY_sum (m a : Nat) : ∀ k, topY m (a + k) k = sumY m a k := by
  intro k
  induction k with
  | zero => rfl
  | succ k ih =>
    rw [← Nat.add_assoc, topY_first, ih, sumY]
    omega
theorem topX_bd (m d : Nat) : ∀ r : Nat, -(128 * (r : Int)) ≤ topX m d r ∧ topX m d r ≤ 128 * (r : Int) := by
  intro r
  induction r with
  | zero => simp [topX]
  | succ r ih =>
    have := strX_bd ((d - r : Nat) : Int)
    rw [topX]
    rcases sgn_cases m (d - r) with h | h <;> rw [h] <;> omega
theorem topY_bd (m d : Nat) : ∀ r : Nat, -(128 * (r : Int)) ≤ topY m d r ∧ topY m d r ≤ 128 * (r : Int) := by
  intro r
  induction r with
  | zero => simp [topY]
  | succ r ih =>
    have := strY_bd ((d - r : Nat) : Int)
    rw [topY]
    rcases sgn_cases m (d - r) with h | h <;> rw [h] <;> omega
theorem sgn_child {m j : Nat} (hm : m ≤ 131070) (h : lev m ≤ j) : (anc m j < anc m (j + 1) ↔ (m : Int) < (anc m (j + 1) : Nat)) := by
  have hh := halves m j
  have e1 : anc m j = plo m j + (2 ^ j - 1) := rfl
  have e2 : anc m (j + 1) = plo m (j + 1) + (2 ^ (j + 1) - 1) := rfl
  have hp := pow_pos' j
  have e3 : 2 ^ (j + 1) = 2 * 2 ^ j := by rw [Nat.pow_succ]; omega
  have hne : m ≠ anc m (j + 1) := by
    intro e
    have h1 := anc_lev m (j + 1)
    rw [← e] at h1
    have := lev_unique (lev_is hm) h1
    omega
  rcases hh with ⟨k1, k2, k3⟩ | ⟨k1, k2, k3⟩
  · constructor <;> intro _ <;> omega
  · constructor <;> intro _ <;> omega
def RPlaceP (x n : Int) (w : World) (e : Ending) (w' : World) : Prop := e = .returned (.tuple #[.agg #[.int .i64 (plX x n), .int .i64 (plY x n)], .bool (isOf x n)]) ∧ Below w.heap.size w w'
set_option maxRecDepth 100000 in
set_option maxHeartbeats 4000000 in
theorem rplace_any (x n : Int) (w : World) (h1 : -9223372036854775808 ≤ n) (h2 : n ≤ 9223372036854775807) :
    Calls Try.prog 17 #[.int .i64 x, .int .i64 n] w (RPlaceP x n w) := by
  by_cases ho : isOf x n = true
  · obtain ⟨m, d, rfl, rfl, hd, hm⟩ := isOf_out ho
    have D := fun w => down_on m d hd hm w
    have h17 := two_pow_le (show d + 1 ≤ 17 by omega)
    have hm17 : m ≤ 131070 := by omega
    have hlv := lev_is (x := m) (by omega)
    have hl := (lev_root hm hlv).1
    have eX : plX (m : Int) ((2 ^ d : Nat) : Int) = topX m d (d - lev m) := by
      rw [plX, if_pos ho, Int.toNat_natCast, Int.toNat_natCast, Nat.log2_two_pow, ← topX_sum, show lev m + (d - lev m) = d by omega]
    have eY : plY (m : Int) ((2 ^ d : Nat) : Int) = topY m d (d - lev m) := by
      rw [plY, if_pos ho, Int.toNat_natCast, Int.toNat_natCast, Nat.log2_two_pow, ← topY_sum, show lev m + (d - lev m) = d by omega]
    have eP : ∀ e w', RPlaceP m ((2 ^ d : Nat) : Int) w e w' ↔ e = .returned (.tuple #[.agg #[.int .i64 (topX m d (d - lev m)), .int .i64 (topY m d (d - lev m))], .bool true]) ∧ Below w.heap.size w w' := by
      intro e w'; unfold RPlaceP; rw [ho, eX, eY]
    have hle : ∀ j, j ≤ d → anc m j ≤ 131070 := fun j hj => by have := anc_le (x := m) (d := d) (j := j) (by omega) hj; omega
    have hLV : ∀ j, j ≤ d → ∀ w, Calls Try.prog 46 #[.int .i64 (anc m j : Nat)] w fun e w' => e = .returned (.int .i64 (j : Nat)) ∧ Below w.heap.size w w' := by
      intro j hj w
      have := rlevel_any (anc m j : Nat) w
      rw [levZ_nat (hle _ hj), lev_eq (hle _ hj) (anc_lev _ _)] at this
      exact this
    have g0 := dnodes_at m d (d - lev m + 1)
    have hsc := fun j (hj : lev m ≤ j) => sgn_child hm17 hj
    obtain ⟨n, hn⟩ : ∃ n, n = 2 ^ d := ⟨_, rfl⟩
    rw [← hn] at D eP ⊢
    obtain ⟨l, hl'⟩ : ∃ l, l = lev m := ⟨_, rfl⟩
    rw [← hl'] at D hl eP g0 hsc
    obtain ⟨k, hk⟩ : ∃ k, k = d - l := ⟨_, rfl⟩
    rw [← hk] at D eP g0
    have hkd : d = l + k := by omega
    have hd16 : l + k ≤ 16 := by omega
    have hm' : m ≤ 131070 := hm17
    have HKD := Lib.hid hkd
    have HD := Lib.hid D
    have HLV := Lib.hid hLV
    have HEP := Lib.hid eP
    have HG := Lib.hid g0
    have HSC := Lib.hid hsc
    have HLE := Lib.hid hle
    clear D hLV eP eX eY hle hk hl hl' ho hm h17 h1 h2 hn hlv g0 hsc hkd hm17
    go_enter Try.func17, Try.ntmps17
    go_wp2_with fail
    refine (HD.out _).mono ?_
    rintro e w1 ⟨v, rfl, hown, hb⟩
    obtain ⟨g, cap, rfl, hg, hgl, hcn, hmx, hc, -⟩ := hown.out (by omega)
    have hb0 := boxAt hb
    have HC := Lib.hid hc
    have HK4 : Hid (Blk w1 w.heap.size 29 #[.int .i64 0, .int .i64 0]) := Lib.hid hb0
    have hz1 : w.heap.size < w1.heap.size := by have := hb.size; simp at this; omega
    have HB := Lib.hid (((Below.refl w.heap.size w).alloc (Nat.le_refl _) (.cells #[.int .i64 0, .int .i64 0] 29)).trans (hb.mono (by simp)))
    clear hc hown hb hb0
    go_wp2_with fail
    go_loopg [8] k (fun q i wr => ∃ r : Nat, r + q = k ∧ i = .int .i64 (r : Int) ∧ Blk wr w1.heap.size 29 #[.int .i64 (topX m d r), .int .i64 (topY m d r)] ∧ Below w1.heap.size w1 wr)
    case atStart => exact ⟨0, by omega, rfl, Blk.new _ _ _, (Below.refl _ _).alloc (Nat.le_refl _) _⟩
    case round =>
      obtain ⟨r, hr, rfl, hbk, hbw⟩ := hrel
      by_cases hrk : r < k
      · have c0 := (hbw.cell (p := ⟨g, r * 3, none⟩) hgl).trans (HC.out _ _ (HG.out r (by omega)))
        have c1 := (hbw.cell (p := ⟨g, (r + 1) * 3, none⟩) hgl).trans (HC.out _ _ (HG.out (r + 1) (by omega)))
        have hsz := hbw.size
        have HBK := Lib.hid hbk
        have HBW := Lib.hid hbw
        have hlv := HLV.out (d - r) (by omega)
        have hsg := HSC.out (d - (r + 1)) (by have := HKD.out; omega)
        rw [show d - (r + 1) + 1 = d - r by have := HKD.out; omega] at hsg
        have ex : topX m d (r + 1) = topX m d r + sgn m (d - r) * strX ((d - r : Nat) : Int) := rfl
        have ey : topY m d (r + 1) = topY m d r + sgn m (d - r) * strY ((d - r : Nat) : Int) := rfl
        have es : sgn m (d - r) = if (m : Int) < (anc m (d - r) : Nat) then -1 else 1 := rfl
        have hbx := topX_bd m d r
        have hby := topY_bd m d r
        have a1 := HLE.out (d - r) (by omega)
        have a2 := HLE.out (d - (r + 1)) (by omega)
        have ST := fun w => rstride_any ((d - r : Nat) : Int) w
        have hM := strM_bd ((d - r : Nat) : Int)
        have exx : strX ((d - r : Nat) : Int) = if strU ((d - r : Nat) : Int) = true then 0 else strM ((d - r : Nat) : Int) := rfl
        have eyy : strY ((d - r : Nat) : Int) = if strU ((d - r : Nat) : Int) = true then strM ((d - r : Nat) : Int) else 0 := rfl
        rw [exx] at ex
        rw [eyy] at ey
        obtain ⟨M, hMM⟩ : ∃ M, M = strM ((d - r : Nat) : Int) := ⟨_, rfl⟩
        obtain ⟨U, hUU⟩ : ∃ M, M = strU ((d - r : Nat) : Int) := ⟨_, rfl⟩
        rw [← hMM] at ex ey ST hM
        rw [← hUU] at ex ey ST
        obtain ⟨jl, hjl⟩ : ∃ j, j = d - r := ⟨_, rfl⟩
        rw [← hjl] at c0 hlv hsg es a1 ST ex ey
        obtain ⟨p0, hp0⟩ : ∃ a, a = anc m jl := ⟨_, rfl⟩
        obtain ⟨p1, hp1⟩ : ∃ a, a = anc m (d - (r + 1)) := ⟨_, rfl⟩
        rw [← hp0] at c0 hlv hsg es a1
        rw [← hp1] at c1 hsg a2
        obtain ⟨X, hX⟩ : ∃ X, X = topX m d r := ⟨_, rfl⟩
        obtain ⟨Y, hY⟩ : ∃ X, X = topY m d r := ⟨_, rfl⟩
        rw [← hX] at ex hbx HBK
        rw [← hY] at ey hby HBK
        have bX : -4096 ≤ X ∧ X ≤ 4096 := by omega
        have bY : -4096 ≤ Y ∧ Y ≤ 4096 := by omega
        obtain ⟨bX1, bX2⟩ := bX
        obtain ⟨bY1, bY2⟩ := bY
        obtain ⟨hM1, hM2⟩ := hM
        have HL1 := Lib.hid hlv
        have HST := Lib.hid ST
        have HEX := Lib.hid ex
        have HEY := Lib.hid ey
        have HES := Lib.hid es
        have HSG := Lib.hid hsg
        have hrk' : decide ((r : Int) + 1 < (k : Int) + 1) = true := by rw [decide_eq_true_iff]; omega
        have C0 := Lib.hid c0
        have C1 := Lib.hid c1
        clear hlv ST ex ey es hsg hMM hUU hjl hp0 hp1 hX hY hbx hby hbk hbw
        clear c1
        go_wp2_with fail
        refine (HL1.out _).mono ?_
        rintro e w2 ⟨rfl, hb2⟩
        have HBK2 := Lib.hid (HBK.out.below hb2 HBK.out.lt)
        have HBW2 := Lib.hid (HBW.out.trans (hb2.mono hsz))
        have d0 := (hb2.cell (p := ⟨g, r * 3, none⟩) (by have := hsz; simp only; omega)).trans C0.out
        have d1 := (hb2.cell (p := ⟨g, (r + 1) * 3, none⟩) (by have := hsz; simp only; omega)).trans C1.out
        clear hb2
        go_wp2_with fail
        refine (HST.out _).mono ?_
        rintro e w' ⟨rfl, rfl⟩
        have y0 := HBK2.out.cell 0
        have y1 := HBK2.out.cell 1
        have z0 := HBK2.out.frozen 0
        have z1 := HBK2.out.frozen 1
        simp only [List.getElem?_toArray, List.getElem?_cons_zero, List.getElem?_cons_succ] at y0 y1
        by_cases hpp : p1 < p0
        · cases U with
          | true =>
            have hs : sgn m jl = -1 := by rw [HES.out, if_pos (HSG.out.1 hpp)]
            have HSGN := Lib.hid hs
            have hdd : decide ((p1 : Int) < (p0 : Int)) = true := by rw [decide_eq_true_iff]; omega
            clear hs
            have w3' : IntKind.i64.wrap ((r : Int) + 1) = (r : Int) + 1 := by rw [IntKind.wrap_i64]; omega
            have w4' : ((r : Int) + 1).toNat = r + 1 := by omega
            have w5' : (0 : Int) ≤ (r : Int) + 1 := by omega
            go_wp2_with fail
            go_quiet (fail)
            clear w3' w4' w5'
            go_wp2_with fail
            go_roundg (gk - 1)
            case measure => omega
            case rel =>
              refine ⟨r + 1, by omega, by go_num, ?_, (below_drewN' HBW2.out _).setCell (Nat.le_refl _) _⟩
              have hset := (HBK2.out.drewN (by assumption)).set 1 (.int .i64 (Y + -M))
              have q1 : X + -1 * (if True then (0 : Int) else M) = X := by simp
              have q2 : Y + -1 * (if True then M else (0 : Int)) = Y + -M := by simp
              rw [HEX.out, HEY.out, HSGN.out, q1, q2]
              exact hset
          | false =>
            have hs : sgn m jl = -1 := by rw [HES.out, if_pos (HSG.out.1 hpp)]
            have HSGN := Lib.hid hs
            have hdd : decide ((p1 : Int) < (p0 : Int)) = true := by rw [decide_eq_true_iff]; omega
            clear hs
            have w3' : IntKind.i64.wrap ((r : Int) + 1) = (r : Int) + 1 := by rw [IntKind.wrap_i64]; omega
            have w4' : ((r : Int) + 1).toNat = r + 1 := by omega
            have w5' : (0 : Int) ≤ (r : Int) + 1 := by omega
            go_wp2_with fail
            go_quiet (fail)
            clear w3' w4' w5'
            go_wp2_with fail
            go_roundg (gk - 1)
            case measure => omega
            case rel =>
              refine ⟨r + 1, by omega, by go_num, ?_, (below_drewN' HBW2.out _).setCell (Nat.le_refl _) _⟩
              have hset := (HBK2.out.drewN (by assumption)).set 0 (.int .i64 (X + -M))
              have q1 : X + -1 * (if false = true then (0 : Int) else M) = X + -M := by simp
              have q2 : Y + -1 * (if false = true then M else (0 : Int)) = Y := by simp
              rw [HEX.out, HEY.out, HSGN.out, q1, q2]
              exact hset
        · cases U with
          | true =>
            have hs : sgn m jl = 1 := by rw [HES.out, if_neg (fun h => hpp (HSG.out.2 h))]
            have HSGN := Lib.hid hs
            have hdd : decide ((p1 : Int) < (p0 : Int)) = false := by rw [decide_eq_false_iff_not]; omega
            clear hs
            have w3' : IntKind.i64.wrap ((r : Int) + 1) = (r : Int) + 1 := by rw [IntKind.wrap_i64]; omega
            have w4' : ((r : Int) + 1).toNat = r + 1 := by omega
            have w5' : (0 : Int) ≤ (r : Int) + 1 := by omega
            go_wp2_with fail
            go_quiet (fail)
            clear w3' w4' w5'
            go_wp2_with fail
            go_roundg (gk - 1)
            case measure => omega
            case rel =>
              refine ⟨r + 1, by omega, by go_num, ?_, (below_drewN' HBW2.out _).setCell (Nat.le_refl _) _⟩
              have hset := (HBK2.out.drewN (by assumption)).set 1 (.int .i64 (Y + M))
              have q1 : X + 1 * (if True then (0 : Int) else M) = X := by simp
              have q2 : Y + 1 * (if True then M else (0 : Int)) = Y + M := by simp
              rw [HEX.out, HEY.out, HSGN.out, q1, q2]
              exact hset
          | false =>
            have hs : sgn m jl = 1 := by rw [HES.out, if_neg (fun h => hpp (HSG.out.2 h))]
            have HSGN := Lib.hid hs
            have hdd : decide ((p1 : Int) < (p0 : Int)) = false := by rw [decide_eq_false_iff_not]; omega
            clear hs
            have w3' : IntKind.i64.wrap ((r : Int) + 1) = (r : Int) + 1 := by rw [IntKind.wrap_i64]; omega
            have w4' : ((r : Int) + 1).toNat = r + 1 := by omega
            have w5' : (0 : Int) ≤ (r : Int) + 1 := by omega
            go_wp2_with fail
            go_quiet (fail)
            clear w3' w4' w5'
            go_wp2_with fail
            go_roundg (gk - 1)
            case measure => omega
            case rel =>
              refine ⟨r + 1, by omega, by go_num, ?_, (below_drewN' HBW2.out _).setCell (Nat.le_refl _) _⟩
              have hset := (HBK2.out.drewN (by assumption)).set 0 (.int .i64 (X + M))
              have q1 : X + 1 * (if false = true then (0 : Int) else M) = X + M := by simp
              have q2 : Y + 1 * (if false = true then M else (0 : Int)) = Y := by simp
              rw [HEX.out, HEY.out, HSGN.out, q1, q2]
              exact hset
      · obtain rfl : r = k := by omega
        have hrk' : decide ((r : Int) + 1 < (r : Int) + 1) = false := by rw [decide_eq_false_iff_not]; omega
        have HBK := Lib.hid hbk
        have HBW := Lib.hid hbw
        have HK4' := Lib.hid (HK4.out.below hbw hz1)
        clear hbk hbw
        go_wp2_with (first
          | (refine wpList_load_at rfl 29 (.tmp 7) rfl w1.heap.size rfl 29 #[.int .i64 (topX m d r), .int .i64 (topY m d r)] (0, 0) _ HBK.out Try.underlying29 rfl (by kernel_rfl) ?_)
          | (refine wpList_store_blk rfl 29 (.tmp 4) (.tmp 60) rfl w.heap.size #[.int .i64 (topX m d r), .int .i64 (topY m d r)] rfl rfl _ _ HK4'.out (by kernel_rfl) rfl rfl ?_))
        rintro w4 hk5 hb5 - -
        have HK5 := Lib.hid hk5
        have HB5 := Lib.hid (hb5 _ (Nat.le_refl _))
        clear hk5 hb5
        go_wp2_with fail
        refine bodyPost_ret (v := .tuple #[.agg #[.int .i64 (topX m d r), .int .i64 (topY m d r)], .bool true]) (results_row2 Try.results17 _ _ w.heap.size _ _ _ rfl HK5.out Try.underlying29 rfl (by kernel_rfl)) rfl ((HEP.out _ _).2 ⟨rfl, ?_⟩)
        exact (HB.out.trans (HBW.out.mono (by omega))).trans HB5.out
  · have hf : isOf x n = false := by rw [← Bool.not_eq_true]; exact ho
    have eP : ∀ e w', RPlaceP x n w e w' ↔ e = .returned (.tuple #[.agg #[.int .i64 0, .int .i64 0], .bool false]) ∧ Below w.heap.size w w' := by
      intro e w'; unfold RPlaceP plX plY; rw [hf, if_neg (by simp), if_neg (by simp)]
    have HD := Lib.hid (fun w => down_off x n w h1 h2 hf)
    have HEP := Lib.hid eP
    clear eP hf ho h1 h2
    go_enter Try.func17, Try.ntmps17
    go_wp2_with fail
    refine (HD.out _).mono ?_
    rintro e w' ⟨rfl, rfl⟩
    go_wp2_with fail
    refine bodyPost_ret (v := .tuple #[.agg #[.int .i64 0, .int .i64 0], .bool false]) (results_row2 Try.results17 _ _ w.heap.size _ #[.int .i64 0, .int .i64 0] _ rfl ((Blk.new _ _ _).alloc _) Try.underlying29 rfl (by kernel_rfl)) rfl ((HEP.out _ _).2 ⟨rfl, ?_⟩)
    exact ((Below.refl _ _).alloc (Nat.le_refl _) _).alloc (by simp) _
end Go.Proofs.Ytbjfacfphgnhpaa
