/- Walks: WalkCover. -/
import Derived.Test.YtbjfacfphgnhpaaWalkCoverMath
import Derived.Laws.MakeOwn
namespace Go.Proofs.Ytbjfacfphgnhpaa
open Go.RowKit WalkM
set_option linter.unusedVariables false
theorem make_ints {n : Nat} (hn : n ≤ 65536) : ∀ w : World, (Instr.makeSlice 35 (.int .i64 (n : Nat)) (.int .i64 (n : Nat))).run Try.prog w = .ok (.slice (some ⟨w.heap.size, 0, none⟩) n n) (w.alloc (.cells (madeCells (Value.int .i64 0).cells (n * 1)) 3)) := by
  intro w
  obtain ⟨i, hi, hz, hsz, hby⟩ := info_parts intsE.inf
  have hr := run_make (P := Try.prog) w 35 3 i (.int .i64 0) Try.underlying35 hi hz .i64 .i64 n n (by omega) (by omega) (by rw [hby]; omega) (by omega)
  simp only [Int.toNat_natCast, hsz] at hr
  exact hr
theorem made_ints (n : Nat) : madeCells (Value.int .i64 0).cells (n * 1) = (ivs .i64 (List.replicate n 0)).toArray := by
  rw [Nat.mul_one]
  apply Array.ext
  · simp [madeCells, ivs]
  · intro i h1 h2
    simp [madeCells, ivs, Value.cells, Nat.mod_one]
theorem Own.same {w w' : World} {B : Nat} {e : TypeId} {g n cap : Nat} {xs : List Value} (h : Own w B e (.slice (some ⟨g, 0, none⟩) n cap) xs) (hg : w'.heap[g]? = w.heap[g]?) : Own w' B e (.slice (some ⟨g, 0, none⟩) n cap) xs := by
  obtain ⟨h0, h | ⟨g', cap', cur, hv, hg', hh, r⟩⟩ := h
  · cases h.1
  · simp only [Value.slice.injEq, Option.some.injEq, Addr.mk.injEq, and_true] at hv
    obtain ⟨rfl, rfl, rfl⟩ := hv
    exact ⟨h0, .inr ⟨g, cap, cur, rfl, hg', by rw [hg]; exact hh, r⟩⟩
theorem covL_shift {n lo hi lo' hi' f e : Nat} (h : (f = hi ∧ lo' = lo ∧ hi' = e + 1) ∨ (e + 1 = lo ∧ lo' = f ∧ hi' = hi)) (hfe : f ≤ e) (hlh : lo ≤ hi) : covL n lo hi f (e + 1) = covL n lo' hi' 0 0 := by
  unfold covL
  apply List.map_congr_left
  intro t _
  by_cases c : (lo ≤ t ∧ t < hi) ∨ (f ≤ t ∧ t < e + 1)
  · rw [if_pos c, if_pos (by omega)]
  · rw [if_neg c, if_neg (by omega)]
theorem covL_open (n lo hi f : Nat) : covL n lo hi 0 0 = covL n lo hi f f := by
  unfold covL
  apply List.map_congr_left
  intro t _
  by_cases c : (lo ≤ t ∧ t < hi) ∨ (0 ≤ t ∧ t < 0)
  · rw [if_pos c, if_pos (by omega)]
  · rw [if_neg c, if_neg (by omega)]
theorem cov_le (m l r : Nat) : covLo m l r ≤ covHi m l r := by
  unfold covLo covHi
  by_cases h : r = 0
  · rw [if_pos h, if_pos h]; exact Nat.le_refl _
  · rw [if_neg h, if_neg h]; exact Nat.le_add_right _ _
theorem ivs_set (L : List Int) (i : Nat) (x : Int) : (ivs .i64 L).set i (.int .i64 x) = ivs .i64 (L.set i x) := by simp [ivs, List.map_set]
set_option maxRecDepth 100000 in
set_option maxHeartbeats 4000000 in
theorem walkCover_on (m d : Nat) (hd : d ≤ 10) (hm : m + 1 < 2 ^ (d + 1)) (w : World) :
    Calls Try.prog 9 #[.int .i64 m, .int .i64 ((2 ^ d : Nat) : Int)] w fun e w' => e = .returned (.bool true) ∧ Below w.heap.size w w' := by
  have h11 := two_pow_le (show d + 1 ≤ 11 by omega)
  have h10 := two_pow_le hd
  have he2 : 2 ^ (d + 1) = 2 * 2 ^ d := by rw [Nat.pow_succ]; omega
  have hp := pow_pos' d
  have HA := Lib.hid (fun w => alive14 w)
  have F := fun w => fits_any ((2 ^ d : Nat) : Int) w (by omega) (by omega)
  have hf : fits (2 ^ d) = true := (fits_iff _).2 ⟨d, by omega, rfl⟩
  rw [Int.toNat_natCast, hf] at F
  have C := fun w => copath_any (m : Int) ((2 ^ d : Nat) : Int) w (by omega) (by omega)
  rw [copL_of (by omega) hm] at C
  have hl := (lev_root hm (lev_is (x := m) (by omega))).1
  have hst := fun r hr => cover_step (m := m) (d := d) (r := r) (by omega) hm hr
  have hend := cover_end (m := m) (d := d) (by omega) hm
  have hlen : (partsL m d).length = d - lev m + 1 := by rw [partsL, List.length_cons, cops_len]
  have hiv : ivs .i64 (partsL m d) = .int .i64 (m : Int) :: ivs .i64 (cops m ((2 ^ d : Nat) : Int) (lev m) (d - lev m)) := rfl
  obtain ⟨Cv, hCv⟩ : ∃ Cv, Cv = ivs .i64 (cops m ((2 ^ d : Nat) : Int) (lev m) (d - lev m)) := ⟨_, rfl⟩
  have hCl : Cv.length ≤ 16 := by rw [hCv, ivs_len, cops_len]; omega
  have hC1 : ∀ u ∈ Cv, u.oneCell' = true := by
    rw [hCv]
    intro u hu
    simp only [ivs, List.mem_map] at hu
    obtain ⟨n, _, rfl⟩ := hu
    rfl
  rw [← hCv] at C hiv
  obtain ⟨P, hP⟩ : ∃ P, P = partsL m d := ⟨_, rfl⟩
  rw [← hP] at hst hlen hiv
  obtain ⟨n, hn⟩ : ∃ n, n = 2 ^ d := ⟨_, rfl⟩
  rw [← hn] at F C hst hend he2 h10 hp ⊢
  obtain ⟨l, hl'⟩ : ∃ l, l = lev m := ⟨_, rfl⟩
  rw [← hl'] at hst hend hlen
  obtain ⟨k, hk⟩ : ∃ k, k = d - l := ⟨_, rfl⟩
  rw [← hk] at hst hend hlen
  have hk10 : k ≤ 10 := by omega
  have hm3 : (m : Int) ≤ 2 * (n : Int) - 2 := by omega
  have hn10 : n ≤ 1024 := h10
  have hmk := make_ints (n := n) (by omega)
  rw [made_ints] at hmk
  have HF := Lib.hid F
  have HC := Lib.hid C
  have HST := Lib.hid hst
  have HEND := Lib.hid hend
  have HLEN := Lib.hid hlen
  have HIV := Lib.hid hiv
  have HC1 := Lib.hid hC1
  have hz0 : (ivs .i64 (List.replicate n 0)) = ivs .i64 (covL n (covLo m l 0) (covHi m l 0) 0 0) := by
    have : covLo m l 0 = covHi m l 0 := rfl
    rw [this]
    have := covL_zero n (covHi m l 0) 0
    rw [this]
  rw [hz0] at hmk
  clear F C hst hend hlen hiv hC1 hCv hP hn hl' hk hl he2 hm h11 h10 hf hz0 hd
  go_enter Try.func9, Try.ntmps9
  go_wp2_with fail
  refine (HA.out _).mono ?_
  rintro e w1 ⟨rfl, hb⟩
  have HB1 := Lib.hid hb
  clear hb
  go_wp2_with fail
  refine (HF.out _).mono ?_
  rintro e w' ⟨rfl, rfl⟩
  go_wp2_with fail
  refine (HC.out _).mono ?_
  rintro e w2 ⟨v2, rfl, hown, hb⟩
  have esz : ((w1.alloc (.cells (ivs .i64 (covL n (covLo m l 0) (covHi m l 0) 0 0)).toArray 3)).alloc (.cells #[.int .i64 (m : Int)] 3)).heap.size = w1.heap.size + 2 := by simp
  have hown0 : Own w2 w1.heap.size 3 (.slice (some ⟨w1.heap.size, 0, none⟩) n n) (ivs .i64 (covL n (covLo m l 0) (covHi m l 0) 0 0)) :=
    ((Own.full (cs := (ivs .i64 (covL n (covLo m l 0) (covHi m l 0) 0 0)).toArray) rfl (Nat.le_refl _) (by simp [ivs_len, covL_len]; unfold maxLen; omega) (by simp [ivs_len, covL_len])).alloc _).below hb (Nat.le_refl _)
  have hlit : Own w2 (w1.heap.size + 1) 3 (.slice (some ⟨w1.heap.size + 1, 0, none⟩) 1 1) [.int .i64 (m : Int)] :=
    (Own.full (cs := #[.int .i64 (m : Int)]) (by simp) (by simp) (by unfold maxLen; simp) rfl).below hb (Nat.le_refl _)
  rw [esz] at hb
  have HB2 := Lib.hid (Below.trans ((HB1.out.alloc HB1.out.size (.cells (ivs .i64 (covL n (covLo m l 0) (covHi m l 0) 0 0)).toArray 3)).alloc (by have := HB1.out.size; simp; omega) (.cells #[.int .i64 (m : Int)] 3)) (hb.mono (by have := HB1.out.size; omega)))
  have HO2 := Lib.hid hown
  have HO0 := Lib.hid hown0
  have HLIT := Lib.hid hlit
  have hsz2 : w1.heap.size + 2 ≤ w2.heap.size := by have := hb.size; rw [esz] at this; exact this
  clear hb hown hmk hown0 hlit esz
  go_wp2_with (at_builtin; refine wpList_app rfl (.tmp 39) (.tmp 42) 35 rfl (w1.heap.size + 1) 3 _ 8 intsE _ [.int .i64 (m : Int)] rfl HLIT.out _ Cv rfl HO2.out.rd HC1.out ?c2 ?c3 ?_)
  case c2 => simp; omega
  case c3 => omega
  rintro v3 w3 hown3 - hb3
  have hown3' : Own w3 (w1.heap.size + 1) 3 v3 (ivs .i64 P) := by rw [HIV.out]; exact hown3
  have hPne : ivs .i64 P ≠ [] := by rw [HIV.out]; simp
  obtain ⟨g3, cap3, cur3, rfl, hg3, hgl3, _, hcp1, hcp2, _, _, hc3, _⟩ := hown3'.out hPne
  have e3 : (ivs .i64 P).length = k + 1 := by rw [ivs_len]; exact HLEN.out
  rw [e3] at hcp1 ⊢
  have hc3' : ∀ j, j ≤ k → w3.cell? ⟨g3, j, none⟩ = some (.int .i64 (P.getD j 0)) := by
    intro j hj
    refine hc3 j _ ?_
    have hjl : j < P.length := by rw [HLEN.out]; omega
    simp [ivs, hjl]
  have hseen := HO0.out.same (hb3.block w1.heap.size (by omega))
  have HS3 := Lib.hid hseen
  have HC3 := Lib.hid hc3'
  have HB3 := Lib.hid (HB2.out.trans (hb3.mono (by have := HB1.out.size; omega)))
  have hg1 := HB1.out.size
  have hgne : g3 ≠ w1.heap.size := by omega
  clear hown3 hown3' hPne hc3 hc3' hseen hb3 HO0 HLIT HO2 e3
  go_wp2_with fail
  go_loopg [7] (k + 1) (fun q i wr => ∃ r : Nat, r + q = k + 1 ∧ i = .int .i64 (r : Int) ∧ Own wr w1.heap.size 3 (.slice (some ⟨w1.heap.size, 0, none⟩) n n) (ivs .i64 (covL n (covLo m l r) (covHi m l r) 0 0)) ∧ (∀ j : Nat, wr.cell? ⟨g3, j, none⟩ = w3.cell? ⟨g3, j, none⟩) ∧ Below w.heap.size w wr)
  case atStart => exact ⟨0, by omega, rfl, HS3.out, fun _ => rfl, HB3.out⟩
  case round =>
    obtain ⟨r, hr, rfl, hown, hkeep, hbel⟩ := hrel
    have HO := Lib.hid hown
    have HK := Lib.hid hkeep
    have HB := Lib.hid hbel
    clear hown hkeep hbel
    by_cases hrk : r ≤ k
    · obtain ⟨f, e, hsp, hfe, hen, hadj⟩ := HST.out r hrk
      have c1 := (HK.out r).trans (HC3.out r hrk)
      have S := fun w => span_any (P.getD r 0) w
      rw [hsp] at S
      obtain ⟨y, hy⟩ : ∃ y, y = P.getD r 0 := ⟨_, rfl⟩
      rw [← hy] at c1 S
      have HSP := Lib.hid S
      have HADJ := Lib.hid hadj
      have hlh := cov_le m l r
      obtain ⟨lo, hlo⟩ : ∃ a, a = covLo m l r := ⟨_, rfl⟩
      obtain ⟨hi, hhi⟩ : ∃ a, a = covHi m l r := ⟨_, rfl⟩
      rw [← hlo, ← hhi] at HADJ HO hlh
      have HLH := Lib.hid hlh
      obtain ⟨wo, rfl⟩ : ∃ wo : World, wo = wr := ⟨_, rfl⟩
      obtain ⟨go1, rfl⟩ : ∃ g, g = gk := ⟨_, rfl⟩
      have hrk' : decide ((r : Int) < (k : Int) + 1) = true := by rw [decide_eq_true_iff]; omega
      clear hsp hadj hy S hlo hhi hlh
      go_wp2_with fail
      refine (HSP.out _).mono ?_
      rintro e' w' ⟨rfl, rfl⟩
      go_wp2_with fail
      go_loopg [10] (e + 1 - f) (fun q i wv => ∃ t : Nat, t + q = e + 1 ∧ f ≤ t ∧ i = .int .i64 (t : Int) ∧ Own wv w1.heap.size 3 (.slice (some ⟨w1.heap.size, 0, none⟩) n n) (ivs .i64 (covL n lo hi f t)) ∧ (∀ j : Nat, wv.cell? ⟨g3, j, none⟩ = w3.cell? ⟨g3, j, none⟩) ∧ Below w.heap.size w wv)
      case atStart => exact ⟨f, by omega, by omega, rfl, by rw [← covL_open]; exact HO.out, HK.out, HB.out⟩
      case round =>
        clear hrk'
        obtain ⟨t, ht, hft, rfl, hown, hkeep, hbel⟩ := hrel
        have HO2 := Lib.hid hown
        have HK2 := Lib.hid hkeep
        have HB2' := Lib.hid hbel
        clear hown hkeep hbel
        by_cases hte : t ≤ e
        · obtain ⟨hcT, hfT⟩ := HO2.out.at
          have htn : t < n := by omega
          have q4 : wr.cell? ⟨w1.heap.size, t, none⟩ = some (.int .i64 0) := by
            refine hcT t _ ?_
            have hz : (covL n lo hi f t).getD t 0 = 0 := by
              rw [covL_get htn, if_neg]
              rcases HADJ.out with ⟨k1, k2, k3⟩ | ⟨k1, k2, k3⟩ <;> omega
            have hl2 : t < (covL n lo hi f t).length := by rw [covL_len]; exact htn
            rw [List.getD_eq_getElem?_getD, List.getElem?_eq_getElem hl2, Option.getD_some] at hz
            simp [ivs, hl2, hz]
          have f1 := hfT t
          have hte' : decide ((t : Int) ≤ (e : Int)) = true := by rw [decide_eq_true_iff]; omega
          clear hcT hfT
          go_wp2_with fail
          go_roundg (gk - 1)
          case measure => omega
          case rel =>
            refine ⟨t + 1, by omega, by omega, by go_num, ?_, ?_, HB2'.out.setCell hg1 _⟩
            · have := HO2.out.set t (.int .i64 1)
              rw [ivs_set, covL_set htn hft] at this
              exact this
            · intro j
              exact (World.cell?_setCell_other _ _ _ _ (by intro e; simp only [Addr.mk.injEq] at e; exact hgne e.1.symm)).trans (HK2.out j)
        · obtain rfl : t = e + 1 := by omega
          have hte' : decide (((e + 1 : Nat) : Int) ≤ (e : Int)) = false := by rw [decide_eq_false_iff_not]; omega
          go_wp2_with fail
          go_roundg (go1 - 1)
          case measure => omega
          case rel =>
            refine ⟨r + 1, by omega, by go_num, ?_, HK2.out, HB2'.out⟩
            have := HO2.out
            rw [covL_shift HADJ.out hfe HLH.out] at this
            exact this
    · obtain rfl : r = k + 1 := by omega
      have hown := HO.out
      rw [HEND.out.1, HEND.out.2] at hown
      have HOE := Lib.hid hown
      clear HO hown
      have hrk' : decide (((k + 1 : Nat) : Int) < (k : Int) + 1) = false := by rw [decide_eq_false_iff_not]; omega
      go_wp2_with fail
      go_loopg [11] n (fun q i wv => ∃ t : Nat, t + q = n ∧ i = .int .i64 (t : Int) ∧ wv = wr)
      case atStart => exact ⟨0, by omega, rfl, rfl⟩
      case round =>
        obtain ⟨t, ht, rfl, rfl⟩ := hrel
        by_cases htn : t < n
        · obtain ⟨hcT, _⟩ := HOE.out.at
          have hl2 : t < (covL n 0 n 0 0).length := by rw [covL_len]; exact htn
          have hz : (covL n 0 n 0 0).getD t 0 = 1 := by
            rw [covL_get htn, if_pos (by omega)]
          rw [List.getD_eq_getElem?_getD, List.getElem?_eq_getElem hl2, Option.getD_some] at hz
          have q4 := hcT t (.int .i64 1) (by simp [ivs, hl2, hz])
          clear hcT hz hl2
          go_wp2_with fail
          go_roundg (gk - 1)
          case measure => omega
          case rel => exact ⟨t + 1, by omega, by go_num, rfl⟩
        · obtain rfl : t = n := by omega
          go_wp2_with fail
          go_ret
          exact ⟨rfl, HB.out⟩
set_option maxRecDepth 100000 in
set_option maxHeartbeats 4000000 in
theorem walkCover_off (x n : Int) (hn : -9223372036854775808 ≤ n ∧ n ≤ 9223372036854775807) (ho : ¬ (isOf x n = true ∧ n ≤ 1024)) (w : World) :
    Calls Try.prog 9 #[.int .i64 x, .int .i64 n] w fun e w' => e = .returned (.bool true) ∧ Below w.heap.size w w' := by
  have HA := Lib.hid (fun w => alive14 w)
  have F := fun w => fits_any n w hn.1 hn.2
  have hcase : n < 1 ∨ (1 ≤ n ∧ 1024 < n) ∨ (1 ≤ n ∧ n ≤ 1024 ∧ fits n.toNat = false) ∨ (1 ≤ n ∧ n ≤ 1024 ∧ fits n.toNat = true ∧ x < 0) ∨ (1 ≤ n ∧ n ≤ 1024 ∧ fits n.toNat = true ∧ 0 ≤ x ∧ 2 * n - 2 < x) := by
    by_cases h1 : n < 1
    · exact .inl h1
    · by_cases h2 : 1024 < n
      · exact .inr (.inl ⟨by omega, h2⟩)
      · by_cases hf : fits n.toNat = true
        · by_cases h3 : x < 0
          · exact .inr (.inr (.inr (.inl ⟨by omega, by omega, hf, h3⟩)))
          · refine .inr (.inr (.inr (.inr ⟨by omega, by omega, hf, by omega, ?_⟩)))
            rcases Int.lt_or_le (2 * n - 2) x with h | h
            · exact h
            · exact absurd ⟨by rw [isOf, hf, Bool.true_and, decide_eq_true]; omega, by omega⟩ ho
        · exact .inr (.inr (.inl ⟨by omega, by omega, by rw [← Bool.not_eq_true]; exact hf⟩))
  clear ho hn
  rcases hcase with h | ⟨h, h2⟩ | ⟨h, h2, hf⟩ | ⟨h, h2, hf, h3⟩ | ⟨h, h2, hf, h3, h4⟩
  · clear F
    go_enter Try.func9, Try.ntmps9
    go_wp2_with fail
    refine (HA.out _).mono ?_
    rintro e w1 ⟨rfl, hb⟩
    have HB1 := Lib.hid hb
    clear hb
    go_wp2_with fail
    go_ret
    exact ⟨rfl, HB1.out⟩
  · clear F
    go_enter Try.func9, Try.ntmps9
    go_wp2_with fail
    refine (HA.out _).mono ?_
    rintro e w1 ⟨rfl, hb⟩
    have HB1 := Lib.hid hb
    clear hb
    go_wp2_with fail
    go_ret
    exact ⟨rfl, HB1.out⟩
  all_goals
    rw [hf] at F
    have HF := Lib.hid F
    clear F hf
    go_enter Try.func9, Try.ntmps9
    go_wp2_with fail
    refine (HA.out _).mono ?_
    rintro e w1 ⟨rfl, hb⟩
    have HB1 := Lib.hid hb
    clear hb
    go_wp2_with fail
    refine (HF.out _).mono ?_
    rintro e w' ⟨rfl, rfl⟩
    go_wp2_with fail
    go_ret
    exact ⟨rfl, HB1.out⟩
theorem walkCover_walk (x n : Int) (hx : -9223372036854775808 ≤ x ∧ x ≤ 9223372036854775807) (hn : -9223372036854775808 ≤ n ∧ n ≤ 9223372036854775807) (w : World) :
    Calls Try.prog 9 #[.int .i64 x, .int .i64 n] w fun e w' => e = .returned (.bool true) ∧ Below w.heap.size w w' := by
  by_cases ho : isOf x n = true ∧ n ≤ 1024
  · obtain ⟨ho, hn10⟩ := ho
    obtain ⟨m, d, rfl, rfl, hd, hm⟩ := isOf_out ho
    have hd10 : d ≤ 10 := by
      rcases Nat.lt_or_ge 10 d with h | h
      · exfalso
        have := two_pow_le (show 11 ≤ d by omega)
        omega
      · exact h
    exact walkCover_on m d hd10 hm w
  · exact walkCover_off x n hn ho w
end Go.Proofs.Ytbjfacfphgnhpaa
